/- Printed by a program of this session (myprint) out of the translation: the functions as plain Lean functions, and that the calls compute them. What counts is Lean's check. -/
import Derived.Test.YtcpohmfkmgcjkaaQFrameTurnOks
import Derived.Test.YtcpohmfkmgcjkaaQFrameTurnPx0
import Derived.Test.YtcpohmfkmgcjkaaQFrameTurnPx1
import Derived.Test.YtcpohmfkmgcjkaaQFrameTurnPx8
import Derived.Test.YtcpohmfkmgcjkaaQFrameTurnPx10
import Derived.Test.YtcpohmfkmgcjkaaQFrameTurnPx12
import Derived.Test.YtcpohmfkmgcjkaaQFrameTurnPx15
import Derived.Test.YtcpohmfkmgcjkaaQFrameTurnShort
namespace Go.Proofs.Ytcpohmfkmgcjkaa.P
open Go.RowKit Go.Proofs.YtcpohmfkmgcjkaaW.PrintWords Go.Proofs.YtcpohmfkmgcjkaaW.PrintLast Go.Proofs.YtcpohmfkmgcjkaaW.PrintMore
attribute [local go_sem] max2_int min2_int max_two min_two max_three min_three max_four min_four
set_option linter.unusedVariables false
set_option linter.unusedSimpArgs false
attribute [-simp] ByteArray.size_extract ByteArray.size_append ByteArray.extract_append_extract
attribute [-go_sem] ByteArray.size_append'
def plaitinglaw5_FrameTurn.f (k : Nat) (a0_0 : Int) (a0_1 : Int) (a0_2 : Int) (a0_3 : Int) (a0_4 : Int) (l0_5 : List Int) (a1_0 : Int) (a1_1 : Int) (a1_2 : Int) (a1_3 : Int) (a1_4 : Int) (l1_5 : List (S26)) (l2 : List Int) (a3 : Int) (a4 : Int) : Option (Bool) := (plaitinglaw5_known.f).bind fun tCg => (if tCg = true then ((plaitinglaw3_Make.f k a0_0 a0_1 a0_2 a0_3 a0_4 l0_5).bind fun btAg => ((plaitinglaw5_Make.f k btAg.1 btAg.2.1 btAg.2.2.1 btAg.2.2.2.1 btAg.2.2.2.2.1 btAg.2.2.2.2.2 a1_0 a1_1 a1_2 a1_3 a1_4 l1_5 l2).bind fun btBk => ((frame_Text.f btAg.1 btAg.2.1 btAg.2.2.1 btAg.2.2.2.1 btAg.2.2.2.2.1 btAg.2.2.2.2.2 btBk.1 btBk.2.1 btBk.2.2.1 btBk.2.2.2.1 btBk.2.2.2.2.1 btBk.2.2.2.2.2).bind fun tAr => ((plaitinglaw5_within.f a3 (wrap64 ((tAr.size : Int) - 1))).bind fun tAy => ((plaitinglaw5_within.f a4 (wrap64 ((tAr.size : Int) - 1))).bind fun tBc => ((plaitingref1_Turn.f k tAr tAy).bind fun tBp => ((frame_Read.f btAg.1 btAg.2.1 btAg.2.2.1 btAg.2.2.2.1 btAg.2.2.2.2.1 btAg.2.2.2.2.2 tBp).bind fun btAv => ((plaitingref1_Turn.f k tAr tAy).bind fun tBn => ((plaitingref1_Turn.f k tBn tBc).bind fun tBi => ((frame_Read.f btAg.1 btAg.2.1 btAg.2.2.1 btAg.2.2.2.1 btAg.2.2.2.2.1 btAg.2.2.2.2.2 tBi).bind fun btAs => ((plaitingref1_Turn.f k tAr (wrap64 ((tAr.size : Int) - 1))).bind fun tBj => ((frame_Read.f btAg.1 btAg.2.1 btAg.2.2.1 btAg.2.2.2.1 btAg.2.2.2.2.1 btAg.2.2.2.2.2 tBj).bind fun btBm => (if btAv.2.2.2.2.2.2 = 5 then (if btBm.2.2.2.2.2.2 = 4 then (if btAs.2.2.2.2.2.2 = 5 then (some true) else (if tAy = tBc then (some (btAs.2.2.2.2.2.2 == 0)) else (some false))) else (some false)) else (some false)))))))))))))) else (some false))
def plaitinglaw5_FrameTurn.T6 : Bool × List (List Nat × List Nat) := (true, [([], []), ([], []), ([], []), ([1, 2], [1, 2]), ([0, 3, 3], [0, 3]), ([4], [4]), ([5], [5]), ([5], [5]), ([], []), ([8, 6, 4, 0, 1, 2, 3, 4, 5, 6, 8], [6, 8]), ([7, 9, 0, 1, 2, 3, 4, 5, 6, 7, 8, 9], [7])])
def plaitinglaw5_FrameTurn.B6 : List Nat := [0, 0, 0, 6, 15, 31, 63, 63, 0, 383, 1023]
theorem plaitinglaw5_FrameTurn.tab6 : rtab .any (opsOf Try.f10 6) = plaitinglaw5_FrameTurn.T6 := by kernel_rfl
theorem plaitinglaw5_FrameTurn.bits6 : waitsOk plaitinglaw5_FrameTurn.T6.2 plaitinglaw5_FrameTurn.B6 = true := by kernel_rfl
def plaitinglaw5_FrameTurn.T7 : Bool × List (List Nat × List Nat) := (true, [([], []), ([], []), ([], []), ([1, 2], [1, 2]), ([], []), ([3, 4, 3], [3, 4]), ([0, 5, 5], [0, 5]), ([6], [6]), ([7], [7]), ([7], [7]), ([], []), ([10, 8, 6, 0, 1, 2, 3, 4, 5, 6, 7, 8, 10], [8, 10]), ([9, 11, 0, 1, 2, 3, 4, 5, 6, 7, 8, 9, 10, 11], [9])])
def plaitinglaw5_FrameTurn.B7 : List Nat := [0, 0, 0, 6, 0, 30, 63, 127, 255, 255, 0, 1535, 4095]
theorem plaitinglaw5_FrameTurn.tab7 : rtab .any (opsOf Try.f10 7) = plaitinglaw5_FrameTurn.T7 := by kernel_rfl
theorem plaitinglaw5_FrameTurn.bits7 : waitsOk plaitinglaw5_FrameTurn.T7.2 plaitinglaw5_FrameTurn.B7 = true := by kernel_rfl
def plaitinglaw5_FrameTurn.T8 : Bool × List (List Nat × List Nat) := (true, [([], []), ([], []), ([], []), ([2], [2]), ([3], [3]), ([1, 4], [1, 4]), ([0, 5, 5], [0, 5]), ([6], [6]), ([7], [7]), ([7], [7]), ([], []), ([10, 8, 6, 0, 1, 2, 3, 4, 5, 6, 7, 8, 10], [8, 10]), ([9, 11, 0, 1, 2, 3, 4, 5, 6, 7, 8, 9, 10, 11], [9])])
def plaitinglaw5_FrameTurn.B8 : List Nat := [0, 0, 0, 4, 12, 30, 63, 127, 255, 255, 0, 1535, 4095]
theorem plaitinglaw5_FrameTurn.tab8 : rtab .any (opsOf Try.f10 8) = plaitinglaw5_FrameTurn.T8 := by kernel_rfl
theorem plaitinglaw5_FrameTurn.bits8 : waitsOk plaitinglaw5_FrameTurn.T8.2 plaitinglaw5_FrameTurn.B8 = true := by kernel_rfl
set_option maxHeartbeats 8000000 in
set_option maxRecDepth 100000 in
theorem plaitinglaw5_FrameTurn.calls (k : Nat) (a0_0 : Int) (a0_1 : Int) (a0_2 : Int) (a0_3 : Int) (a0_4 : Int) (A0_5 : Option Addr) (c0_5 : Nat) (l0_5 : List Int) (a1_0 : Int) (a1_1 : Int) (a1_2 : Int) (a1_3 : Int) (a1_4 : Int) (A1_5 : Option Addr) (c1_5 : Nat) (l1_5 : List (S26)) (A2 : Option Addr) (c2 : Nat) (l2 : List Int) (a3 : Int) (a4 : Int) (r : Bool) (w : World) (hr0_5 : Kd.C (Kd.int .i64) w A0_5 l0_5.length l0_5) (hc0_5 : l0_5.length ≤ c0_5) (hr1_5 : Kd.C k26 w A1_5 l1_5.length l1_5) (hc1_5 : l1_5.length ≤ c1_5) (hr2 : Kd.C (Kd.int .i64) w A2 l2.length l2) (hc2 : l2.length ≤ c2) (hrt : r = true) (h : plaitinglaw5_FrameTurn.f k a0_0 a0_1 a0_2 a0_3 a0_4 l0_5 a1_0 a1_1 a1_2 a1_3 a1_4 l1_5 l2 a3 a4 = some r) :
  Calls Try.prog 10 #[.agg #[.int .i64 a0_0, .int .i64 a0_1, .int .i64 a0_2, .int .i64 a0_3, .int .i64 a0_4, .slice A0_5 l0_5.length c0_5], .agg #[.int .i64 a1_0, .int .i64 a1_1, .int .i64 a1_2, .int .i64 a1_3, .int .i64 a1_4, .slice A1_5 l1_5.length c1_5], .slice A2 l2.length c2, .int .i64 a3, .int .i64 a4] w fun e w' => e = .returned (.bool r) ∧ Below w.heap.size w w' := by
 have HRT := Aside0.mk hrt
 clear hrt
 have hu24 := Try.underlying24
 have hu29 := Try.underlying29
 have HR0_5 := Aside0.mk hr0_5
 have HC0_5 := Aside0.mk hc0_5
 clear hr0_5 hc0_5
 have HR1_5 := Aside0.mk hr1_5
 have HC1_5 := Aside0.mk hc1_5
 clear hr1_5 hc1_5
 have HR2 := Aside0.mk hr2
 have HC2 := Aside0.mk hc2
 clear hr2 hc2
 have HB := Aside0.mk (Below.refl w.heap.size w)
 have H : ((plaitinglaw5_known.f).bind fun tCg => (if tCg = true then ((plaitinglaw3_Make.f k a0_0 a0_1 a0_2 a0_3 a0_4 l0_5).bind fun btAg => ((plaitinglaw5_Make.f k btAg.1 btAg.2.1 btAg.2.2.1 btAg.2.2.2.1 btAg.2.2.2.2.1 btAg.2.2.2.2.2 a1_0 a1_1 a1_2 a1_3 a1_4 l1_5 l2).bind fun btBk => ((frame_Text.f btAg.1 btAg.2.1 btAg.2.2.1 btAg.2.2.2.1 btAg.2.2.2.2.1 btAg.2.2.2.2.2 btBk.1 btBk.2.1 btBk.2.2.1 btBk.2.2.2.1 btBk.2.2.2.2.1 btBk.2.2.2.2.2).bind fun tAr => ((plaitinglaw5_within.f a3 (wrap64 ((tAr.size : Int) - 1))).bind fun tAy => ((plaitinglaw5_within.f a4 (wrap64 ((tAr.size : Int) - 1))).bind fun tBc => ((plaitingref1_Turn.f k tAr tAy).bind fun tBp => ((frame_Read.f btAg.1 btAg.2.1 btAg.2.2.1 btAg.2.2.2.1 btAg.2.2.2.2.1 btAg.2.2.2.2.2 tBp).bind fun btAv => ((plaitingref1_Turn.f k tAr tAy).bind fun tBn => ((plaitingref1_Turn.f k tBn tBc).bind fun tBi => ((frame_Read.f btAg.1 btAg.2.1 btAg.2.2.1 btAg.2.2.2.1 btAg.2.2.2.2.1 btAg.2.2.2.2.2 tBi).bind fun btAs => ((plaitingref1_Turn.f k tAr (wrap64 ((tAr.size : Int) - 1))).bind fun tBj => ((frame_Read.f btAg.1 btAg.2.1 btAg.2.2.1 btAg.2.2.2.1 btAg.2.2.2.2.1 btAg.2.2.2.2.2 tBj).bind fun btBm => (if btAv.2.2.2.2.2.2 = 5 then (if btBm.2.2.2.2.2.2 = 4 then (if btAs.2.2.2.2.2.2 = 5 then (some true) else (if tAy = tBc then (some (btAs.2.2.2.2.2.2 == 0)) else (some false))) else (some false)) else (some false)))))))))))))) else (some false))) = some r := h
 clear h
 replace H := Option.bind_eq_some_iff.mp H
 obtain ⟨tCg, A60, H⟩ := H
 replace H : (if tCg = true then ((plaitinglaw3_Make.f k a0_0 a0_1 a0_2 a0_3 a0_4 l0_5).bind fun btAg => ((plaitinglaw5_Make.f k btAg.1 btAg.2.1 btAg.2.2.1 btAg.2.2.2.1 btAg.2.2.2.2.1 btAg.2.2.2.2.2 a1_0 a1_1 a1_2 a1_3 a1_4 l1_5 l2).bind fun btBk => ((frame_Text.f btAg.1 btAg.2.1 btAg.2.2.1 btAg.2.2.2.1 btAg.2.2.2.2.1 btAg.2.2.2.2.2 btBk.1 btBk.2.1 btBk.2.2.1 btBk.2.2.2.1 btBk.2.2.2.2.1 btBk.2.2.2.2.2).bind fun tAr => ((plaitinglaw5_within.f a3 (wrap64 ((tAr.size : Int) - 1))).bind fun tAy => ((plaitinglaw5_within.f a4 (wrap64 ((tAr.size : Int) - 1))).bind fun tBc => ((plaitingref1_Turn.f k tAr tAy).bind fun tBp => ((frame_Read.f btAg.1 btAg.2.1 btAg.2.2.1 btAg.2.2.2.1 btAg.2.2.2.2.1 btAg.2.2.2.2.2 tBp).bind fun btAv => ((plaitingref1_Turn.f k tAr tAy).bind fun tBn => ((plaitingref1_Turn.f k tBn tBc).bind fun tBi => ((frame_Read.f btAg.1 btAg.2.1 btAg.2.2.1 btAg.2.2.2.1 btAg.2.2.2.2.1 btAg.2.2.2.2.2 tBi).bind fun btAs => ((plaitingref1_Turn.f k tAr (wrap64 ((tAr.size : Int) - 1))).bind fun tBj => ((frame_Read.f btAg.1 btAg.2.1 btAg.2.2.1 btAg.2.2.2.1 btAg.2.2.2.2.1 btAg.2.2.2.2.2 tBj).bind fun btBm => (if btAv.2.2.2.2.2.2 = 5 then (if btBm.2.2.2.2.2.2 = 4 then (if btAs.2.2.2.2.2.2 = 5 then (some true) else (if tAy = tBc then (some (btAs.2.2.2.2.2.2 == 0)) else (some false))) else (some false)) else (some false)))))))))))))) else (some false)) = some r := H
 have A6 := Aside0.mk A60
 clear A60
 by_cases c7 : tCg = true
 rotate_left
 ·
  replace c7 := Bool.eq_false_iff.mpr c7
  subst c7
  have H1 : (some false) = some r := by rw [if_neg (show ¬ (false = true) by decide)] at H; exact H
  clear H
  have H := H1
  clear H1
  exact absurd ((Option.some.inj H).trans HRT.out) (by decide)
 subst c7
 have H1 : ((plaitinglaw3_Make.f k a0_0 a0_1 a0_2 a0_3 a0_4 l0_5).bind fun btAg => ((plaitinglaw5_Make.f k btAg.1 btAg.2.1 btAg.2.2.1 btAg.2.2.2.1 btAg.2.2.2.2.1 btAg.2.2.2.2.2 a1_0 a1_1 a1_2 a1_3 a1_4 l1_5 l2).bind fun btBk => ((frame_Text.f btAg.1 btAg.2.1 btAg.2.2.1 btAg.2.2.2.1 btAg.2.2.2.2.1 btAg.2.2.2.2.2 btBk.1 btBk.2.1 btBk.2.2.1 btBk.2.2.2.1 btBk.2.2.2.2.1 btBk.2.2.2.2.2).bind fun tAr => ((plaitinglaw5_within.f a3 (wrap64 ((tAr.size : Int) - 1))).bind fun tAy => ((plaitinglaw5_within.f a4 (wrap64 ((tAr.size : Int) - 1))).bind fun tBc => ((plaitingref1_Turn.f k tAr tAy).bind fun tBp => ((frame_Read.f btAg.1 btAg.2.1 btAg.2.2.1 btAg.2.2.2.1 btAg.2.2.2.2.1 btAg.2.2.2.2.2 tBp).bind fun btAv => ((plaitingref1_Turn.f k tAr tAy).bind fun tBn => ((plaitingref1_Turn.f k tBn tBc).bind fun tBi => ((frame_Read.f btAg.1 btAg.2.1 btAg.2.2.1 btAg.2.2.2.1 btAg.2.2.2.2.1 btAg.2.2.2.2.2 tBi).bind fun btAs => ((plaitingref1_Turn.f k tAr (wrap64 ((tAr.size : Int) - 1))).bind fun tBj => ((frame_Read.f btAg.1 btAg.2.1 btAg.2.2.1 btAg.2.2.2.1 btAg.2.2.2.2.1 btAg.2.2.2.2.2 tBj).bind fun btBm => (if btAv.2.2.2.2.2.2 = 5 then (if btBm.2.2.2.2.2.2 = 4 then (if btAs.2.2.2.2.2.2 = 5 then (some true) else (if tAy = tBc then (some (btAs.2.2.2.2.2.2 == 0)) else (some false))) else (some false)) else (some false)))))))))))))) = some r := by rw [if_pos rfl] at H; exact H
 clear H
 have H := H1
 clear H1
 replace H := Option.bind_eq_some_iff.mp H
 obtain ⟨⟨tAg, tAm, tAn, tAp, tAq, tAj⟩, A80, H⟩ := H
 replace H : ((plaitinglaw5_Make.f k tAg tAm tAn tAp tAq tAj a1_0 a1_1 a1_2 a1_3 a1_4 l1_5 l2).bind fun btBk => ((frame_Text.f tAg tAm tAn tAp tAq tAj btBk.1 btBk.2.1 btBk.2.2.1 btBk.2.2.2.1 btBk.2.2.2.2.1 btBk.2.2.2.2.2).bind fun tAr => ((plaitinglaw5_within.f a3 (wrap64 ((tAr.size : Int) - 1))).bind fun tAy => ((plaitinglaw5_within.f a4 (wrap64 ((tAr.size : Int) - 1))).bind fun tBc => ((plaitingref1_Turn.f k tAr tAy).bind fun tBp => ((frame_Read.f tAg tAm tAn tAp tAq tAj tBp).bind fun btAv => ((plaitingref1_Turn.f k tAr tAy).bind fun tBn => ((plaitingref1_Turn.f k tBn tBc).bind fun tBi => ((frame_Read.f tAg tAm tAn tAp tAq tAj tBi).bind fun btAs => ((plaitingref1_Turn.f k tAr (wrap64 ((tAr.size : Int) - 1))).bind fun tBj => ((frame_Read.f tAg tAm tAn tAp tAq tAj tBj).bind fun btBm => (if btAv.2.2.2.2.2.2 = 5 then (if btBm.2.2.2.2.2.2 = 4 then (if btAs.2.2.2.2.2.2 = 5 then (some true) else (if tAy = tBc then (some (btAs.2.2.2.2.2.2 == 0)) else (some false))) else (some false)) else (some false))))))))))))) = some r := H
 have A8 := Aside0.mk A80
 clear A80
 replace H := Option.bind_eq_some_iff.mp H
 obtain ⟨⟨tBk, tCc, tCd, tCe, tCf, tAw⟩, A90, H⟩ := H
 replace H : ((frame_Text.f tAg tAm tAn tAp tAq tAj tBk tCc tCd tCe tCf tAw).bind fun tAr => ((plaitinglaw5_within.f a3 (wrap64 ((tAr.size : Int) - 1))).bind fun tAy => ((plaitinglaw5_within.f a4 (wrap64 ((tAr.size : Int) - 1))).bind fun tBc => ((plaitingref1_Turn.f k tAr tAy).bind fun tBp => ((frame_Read.f tAg tAm tAn tAp tAq tAj tBp).bind fun btAv => ((plaitingref1_Turn.f k tAr tAy).bind fun tBn => ((plaitingref1_Turn.f k tBn tBc).bind fun tBi => ((frame_Read.f tAg tAm tAn tAp tAq tAj tBi).bind fun btAs => ((plaitingref1_Turn.f k tAr (wrap64 ((tAr.size : Int) - 1))).bind fun tBj => ((frame_Read.f tAg tAm tAn tAp tAq tAj tBj).bind fun btBm => (if btAv.2.2.2.2.2.2 = 5 then (if btBm.2.2.2.2.2.2 = 4 then (if btAs.2.2.2.2.2.2 = 5 then (some true) else (if tAy = tBc then (some (btAs.2.2.2.2.2.2 == 0)) else (some false))) else (some false)) else (some false)))))))))))) = some r := H
 have A9 := Aside0.mk A90
 clear A90
 replace H := Option.bind_eq_some_iff.mp H
 obtain ⟨tAr, A100, H⟩ := H
 replace H : ((plaitinglaw5_within.f a3 (wrap64 ((tAr.size : Int) - 1))).bind fun tAy => ((plaitinglaw5_within.f a4 (wrap64 ((tAr.size : Int) - 1))).bind fun tBc => ((plaitingref1_Turn.f k tAr tAy).bind fun tBp => ((frame_Read.f tAg tAm tAn tAp tAq tAj tBp).bind fun btAv => ((plaitingref1_Turn.f k tAr tAy).bind fun tBn => ((plaitingref1_Turn.f k tBn tBc).bind fun tBi => ((frame_Read.f tAg tAm tAn tAp tAq tAj tBi).bind fun btAs => ((plaitingref1_Turn.f k tAr (wrap64 ((tAr.size : Int) - 1))).bind fun tBj => ((frame_Read.f tAg tAm tAn tAp tAq tAj tBj).bind fun btBm => (if btAv.2.2.2.2.2.2 = 5 then (if btBm.2.2.2.2.2.2 = 4 then (if btAs.2.2.2.2.2.2 = 5 then (some true) else (if tAy = tBc then (some (btAs.2.2.2.2.2.2 == 0)) else (some false))) else (some false)) else (some false))))))))))) = some r := H
 have A10 := Aside0.mk A100
 clear A100
 replace H := Option.bind_eq_some_iff.mp H
 obtain ⟨tAy, A110, H⟩ := H
 replace H : ((plaitinglaw5_within.f a4 (wrap64 ((tAr.size : Int) - 1))).bind fun tBc => ((plaitingref1_Turn.f k tAr tAy).bind fun tBp => ((frame_Read.f tAg tAm tAn tAp tAq tAj tBp).bind fun btAv => ((plaitingref1_Turn.f k tAr tAy).bind fun tBn => ((plaitingref1_Turn.f k tBn tBc).bind fun tBi => ((frame_Read.f tAg tAm tAn tAp tAq tAj tBi).bind fun btAs => ((plaitingref1_Turn.f k tAr (wrap64 ((tAr.size : Int) - 1))).bind fun tBj => ((frame_Read.f tAg tAm tAn tAp tAq tAj tBj).bind fun btBm => (if btAv.2.2.2.2.2.2 = 5 then (if btBm.2.2.2.2.2.2 = 4 then (if btAs.2.2.2.2.2.2 = 5 then (some true) else (if tAy = tBc then (some (btAs.2.2.2.2.2.2 == 0)) else (some false))) else (some false)) else (some false)))))))))) = some r := H
 have A11 := Aside0.mk A110
 clear A110
 replace H := Option.bind_eq_some_iff.mp H
 obtain ⟨tBc, A120, H⟩ := H
 replace H : ((plaitingref1_Turn.f k tAr tAy).bind fun tBp => ((frame_Read.f tAg tAm tAn tAp tAq tAj tBp).bind fun btAv => ((plaitingref1_Turn.f k tAr tAy).bind fun tBn => ((plaitingref1_Turn.f k tBn tBc).bind fun tBi => ((frame_Read.f tAg tAm tAn tAp tAq tAj tBi).bind fun btAs => ((plaitingref1_Turn.f k tAr (wrap64 ((tAr.size : Int) - 1))).bind fun tBj => ((frame_Read.f tAg tAm tAn tAp tAq tAj tBj).bind fun btBm => (if btAv.2.2.2.2.2.2 = 5 then (if btBm.2.2.2.2.2.2 = 4 then (if btAs.2.2.2.2.2.2 = 5 then (some true) else (if tAy = tBc then (some (btAs.2.2.2.2.2.2 == 0)) else (some false))) else (some false)) else (some false))))))))) = some r := H
 have A12 := Aside0.mk A120
 clear A120
 replace H := Option.bind_eq_some_iff.mp H
 obtain ⟨tBp, A130, H⟩ := H
 replace H : ((frame_Read.f tAg tAm tAn tAp tAq tAj tBp).bind fun btAv => ((plaitingref1_Turn.f k tAr tAy).bind fun tBn => ((plaitingref1_Turn.f k tBn tBc).bind fun tBi => ((frame_Read.f tAg tAm tAn tAp tAq tAj tBi).bind fun btAs => ((plaitingref1_Turn.f k tAr (wrap64 ((tAr.size : Int) - 1))).bind fun tBj => ((frame_Read.f tAg tAm tAn tAp tAq tAj tBj).bind fun btBm => (if btAv.2.2.2.2.2.2 = 5 then (if btBm.2.2.2.2.2.2 = 4 then (if btAs.2.2.2.2.2.2 = 5 then (some true) else (if tAy = tBc then (some (btAs.2.2.2.2.2.2 == 0)) else (some false))) else (some false)) else (some false)))))))) = some r := H
 have A13 := Aside0.mk A130
 clear A130
 replace H := Option.bind_eq_some_iff.mp H
 obtain ⟨⟨tAv, tBa, tBd, tBf, tBh, tAt, tBr⟩, A140, H⟩ := H
 replace H : ((plaitingref1_Turn.f k tAr tAy).bind fun tBn => ((plaitingref1_Turn.f k tBn tBc).bind fun tBi => ((frame_Read.f tAg tAm tAn tAp tAq tAj tBi).bind fun btAs => ((plaitingref1_Turn.f k tAr (wrap64 ((tAr.size : Int) - 1))).bind fun tBj => ((frame_Read.f tAg tAm tAn tAp tAq tAj tBj).bind fun btBm => (if tBr = 5 then (if btBm.2.2.2.2.2.2 = 4 then (if btAs.2.2.2.2.2.2 = 5 then (some true) else (if tAy = tBc then (some (btAs.2.2.2.2.2.2 == 0)) else (some false))) else (some false)) else (some false))))))) = some r := H
 have A14 := Aside0.mk A140
 clear A140
 replace H := Option.bind_eq_some_iff.mp H
 obtain ⟨tBn, A150, H⟩ := H
 replace H : ((plaitingref1_Turn.f k tBn tBc).bind fun tBi => ((frame_Read.f tAg tAm tAn tAp tAq tAj tBi).bind fun btAs => ((plaitingref1_Turn.f k tAr (wrap64 ((tAr.size : Int) - 1))).bind fun tBj => ((frame_Read.f tAg tAm tAn tAp tAq tAj tBj).bind fun btBm => (if tBr = 5 then (if btBm.2.2.2.2.2.2 = 4 then (if btAs.2.2.2.2.2.2 = 5 then (some true) else (if tAy = tBc then (some (btAs.2.2.2.2.2.2 == 0)) else (some false))) else (some false)) else (some false)))))) = some r := H
 have A15 := Aside0.mk A150
 clear A150
 replace H := Option.bind_eq_some_iff.mp H
 obtain ⟨tBi, A160, H⟩ := H
 replace H : ((frame_Read.f tAg tAm tAn tAp tAq tAj tBi).bind fun btAs => ((plaitingref1_Turn.f k tAr (wrap64 ((tAr.size : Int) - 1))).bind fun tBj => ((frame_Read.f tAg tAm tAn tAp tAq tAj tBj).bind fun btBm => (if tBr = 5 then (if btBm.2.2.2.2.2.2 = 4 then (if btAs.2.2.2.2.2.2 = 5 then (some true) else (if tAy = tBc then (some (btAs.2.2.2.2.2.2 == 0)) else (some false))) else (some false)) else (some false))))) = some r := H
 have A16 := Aside0.mk A160
 clear A160
 replace H := Option.bind_eq_some_iff.mp H
 obtain ⟨⟨tAs, tAz, tBb, tBe, tBg, tAx, tBq⟩, A170, H⟩ := H
 replace H : ((plaitingref1_Turn.f k tAr (wrap64 ((tAr.size : Int) - 1))).bind fun tBj => ((frame_Read.f tAg tAm tAn tAp tAq tAj tBj).bind fun btBm => (if tBr = 5 then (if btBm.2.2.2.2.2.2 = 4 then (if tBq = 5 then (some true) else (if tAy = tBc then (some (tBq == 0)) else (some false))) else (some false)) else (some false)))) = some r := H
 have A17 := Aside0.mk A170
 clear A170
 replace H := Option.bind_eq_some_iff.mp H
 obtain ⟨tBj, A180, H⟩ := H
 replace H : ((frame_Read.f tAg tAm tAn tAp tAq tAj tBj).bind fun btBm => (if tBr = 5 then (if btBm.2.2.2.2.2.2 = 4 then (if tBq = 5 then (some true) else (if tAy = tBc then (some (tBq == 0)) else (some false))) else (some false)) else (some false))) = some r := H
 have A18 := Aside0.mk A180
 clear A180
 replace H := Option.bind_eq_some_iff.mp H
 obtain ⟨⟨tBm, tBx, tBy, tBz, tCa, tCb, tBv⟩, A190, H⟩ := H
 replace H : (if tBr = 5 then (if tBv = 4 then (if tBq = 5 then (some true) else (if tAy = tBc then (some (tBq == 0)) else (some false))) else (some false)) else (some false)) = some r := H
 have A19 := Aside0.mk A190
 clear A190
 by_cases c20 : tBr = 5
 rotate_left
 ·
  rw [if_neg c20] at H
  have c20b0 : (tBr == 5) = false := beq_eq_false_iff_ne.mpr c20
  have c20b1 : (tBr != 5) = true := bne_iff_ne.mpr c20
  exact absurd ((Option.some.inj H).trans HRT.out) (by decide)
 rw [if_pos c20] at H
 have c20b0 : (tBr == 5) = true := beq_iff_eq.mpr c20
 have c20b1 : (tBr != 5) = false := bne_eq_false_iff_eq.mpr c20
 clear c20
 by_cases c21 : tBv = 4
 rotate_left
 ·
  rw [if_neg c21] at H
  have c21b0 : (tBv == 4) = false := beq_eq_false_iff_ne.mpr c21
  have c21b1 : (tBv != 4) = true := bne_iff_ne.mpr c21
  exact absurd ((Option.some.inj H).trans HRT.out) (by decide)
 rw [if_pos c21] at H
 have c21b0 : (tBv == 4) = true := beq_iff_eq.mpr c21
 have c21b1 : (tBv != 4) = false := bne_eq_false_iff_eq.mpr c21
 clear c21
 by_cases c22 : tBq = 5
 ·
  rw [if_pos c22] at H
  have c22b0 : (tBq == 5) = true := beq_iff_eq.mpr c22
  have c22b1 : (tBq != 5) = false := bne_eq_false_iff_eq.mpr c22
  clear c22
  obtain rfl := Option.some.inj H
  go_enter Try.func10, Try.ntmps10
  try go_wp2_with (first | ((with_reducible refine gate_dst (N := 5) rfl ?_); refine box_event ?hg (N := 5) ?hd (cs := #[.int .i64 a0_0, .int .i64 a0_1, .int .i64 a0_2, .int .i64 a0_3, .int .i64 a0_4, .slice A0_5 l0_5.length c0_5]) (t := 24) ?hr ?_; (case hd => rfl); (case hg => rfl); (case hr => first | (go_simp; done) | (go_simp; rfl)); intro gbAe hg w23 hbox hb; have BKAe := Aside0.mk (hbox); have GWAe := Aside0.mk ((by rw [hg]; exact (below_size (pH_ HB.out)) : w.heap.size ≤ gbAe)); have GEAe := Aside0.mk ((by rw [hg]; exact (below_size (pH_ HB.out)) : w.heap.size ≤ gbAe)); replace HB := Aside0.mk (below_step (pH_ HB.out) hb); clear hb hbox hg) | ((with_reducible refine gate_dst (N := 6) rfl ?_); refine box_event ?hg (N := 6) ?hd (cs := #[.int .i64 a1_0, .int .i64 a1_1, .int .i64 a1_2, .int .i64 a1_3, .int .i64 a1_4, .slice A1_5 l1_5.length c1_5]) (t := 29) ?hr ?_; (case hd => rfl); (case hg => rfl); (case hr => first | (go_simp; done) | (go_simp; rfl)); intro gbAd hg w24 hbox hb; have BKAd := Aside0.mk (hbox); have GWAd := Aside0.mk ((by rw [hg]; exact (below_size (pH_ HB.out)) : w.heap.size ≤ gbAd)); have GEAd := Aside0.mk ((by rw [hg]; exact (below_size (pH_ HB.out)) : w.heap.size ≤ gbAd)); have NBAe_Ad := Aside0.mk (ltB_ hg BKAe.out); have NBAd_Ae := Aside0.mk (ltB_ hg BKAe.out).symm; replace BKAe := Aside0.mk (blk_below (pB_ BKAe.out) hb); replace HB := Aside0.mk (below_step (pH_ HB.out) hb); clear hb hbox hg) | ((with_reducible refine gate_callee (f := 18) rfl ?_); refine gL_ 21 Try.func18 #[] ?_; (with_reducible refine (plaitinglaw5_known.calls  true _ A6.out).mono ?_); rintro e w25 ⟨rfl, hb⟩; refine ⟨_, rfl, ?_⟩; replace BKAe := Aside0.mk (blk_below (pB_ BKAe.out) hb); replace BKAd := Aside0.mk (blk_below (pB_ BKAd.out) hb); replace HB := Aside0.mk (below_step (pH_ HB.out) hb); (try clear hb); (try clear hb2); (try clear hk); (try clear hi); have hnb26 := NBAe_Ad.out; have hnc26 := NBAd_Ae.out; have hcz27_0 : w25.cell? ⟨gbAe, 0, none⟩ = some (.int .i64 a0_0) := (blk_cell BKAe.out 0).trans rfl; have hcz27_1 : w25.cell? ⟨gbAe, 1, none⟩ = some (.int .i64 a0_1) := (blk_cell BKAe.out 1).trans rfl; have hcz27_2 : w25.cell? ⟨gbAe, 2, none⟩ = some (.int .i64 a0_2) := (blk_cell BKAe.out 2).trans rfl; have hcz27_3 : w25.cell? ⟨gbAe, 3, none⟩ = some (.int .i64 a0_3) := (blk_cell BKAe.out 3).trans rfl; have hcz27_4 : w25.cell? ⟨gbAe, 4, none⟩ = some (.int .i64 a0_4) := (blk_cell BKAe.out 4).trans rfl; have hcz27_5 : w25.cell? ⟨gbAe, 5, none⟩ = some (.slice A0_5 l0_5.length c0_5) := (blk_cell BKAe.out 5).trans rfl; have hfz27_0 := blk_frozen BKAe.out 0; have hfz27_1 := blk_frozen BKAe.out 1; have hfz27_2 := blk_frozen BKAe.out 2; have hfz27_3 := blk_frozen BKAe.out 3; have hfz27_4 := blk_frozen BKAe.out 4; have hfz27_5 := blk_frozen BKAe.out 5) | ((with_reducible refine gate_callee (f := 20) rfl ?_); refine gL_ 24 Try.func20 #[.agg #[.int .i64 a0_0, .int .i64 a0_1, .int .i64 a0_2, .int .i64 a0_3, .int .i64 a0_4, .slice A0_5 l0_5.length c0_5]] ?_; (with_reducible refine (plaitinglaw3_Make.calls k a0_0 a0_1 a0_2 a0_3 a0_4 _ _ l0_5 tAg tAm tAn tAp tAq tAj _ ?side1 ?side2 A8.out).mono ?_); (case side1 => exact cC_ (Kd.C_below HR0_5.out HB.out)); (case side2 => exact HC0_5.out); rintro e w28 ⟨vCh, rfl, ho0, hb⟩; refine ⟨_, rfl, ?_⟩; have HOAh := Aside0.mk (Kd.R_lower ho0 (below_size (pH_ HB.out))); replace BKAe := Aside0.mk (blk_below (pB_ BKAe.out) hb); replace BKAd := Aside0.mk (blk_below (pB_ BKAd.out) hb); replace HB := Aside0.mk (below_step (pH_ HB.out) hb); (try clear hb); (try clear hb2); (try clear hk); (try clear hi); (try clear ho0)) | ((with_reducible refine gate_dst (N := 11) rfl ?_); refine box_event ?hg (N := 11) ?hd (cs := #[.int .i64 0, .int .i64 0, .int .i64 0, .int .i64 0, .int .i64 0, .slice none 0 0]) (t := 24) ?hr ?_; (case hd => rfl); (case hg => rfl); (case hr => first | (go_simp; done) | (go_simp; rfl)); intro gbAa hg w29 hbox hb; have BKAa := Aside0.mk (hbox); have GWAa := Aside0.mk ((by rw [hg]; exact (below_size (pH_ HB.out)) : w.heap.size ≤ gbAa)); have GEAa := Aside0.mk ((by rw [hg]; exact (below_size (pH_ HB.out)) : w.heap.size ≤ gbAa)); have NBAe_Aa := Aside0.mk (ltB_ hg BKAe.out); have NBAa_Ae := Aside0.mk (ltB_ hg BKAe.out).symm; have NBAd_Aa := Aside0.mk (ltB_ hg BKAd.out); have NBAa_Ad := Aside0.mk (ltB_ hg BKAd.out).symm; replace HOAh := Aside0.mk (Kd.R_below (pR_ HOAh.out) hb); replace BKAe := Aside0.mk (blk_below (pB_ BKAe.out) hb); replace BKAd := Aside0.mk (blk_below (pB_ BKAd.out) hb); replace HB := Aside0.mk (below_step (pH_ HB.out) hb); clear hb hbox hg; have hnb30 := NBAa_Ae.out; have hnc30 := NBAe_Aa.out; have hnb31 := NBAa_Ad.out; have hnc31 := NBAd_Aa.out; have hcz32_0 : w29.cell? ⟨gbAa, 0, none⟩ = some (.int .i64 0) := (blk_cell BKAa.out 0).trans rfl; have hcz32_1 : w29.cell? ⟨gbAa, 1, none⟩ = some (.int .i64 0) := (blk_cell BKAa.out 1).trans rfl; have hcz32_2 : w29.cell? ⟨gbAa, 2, none⟩ = some (.int .i64 0) := (blk_cell BKAa.out 2).trans rfl; have hcz32_3 : w29.cell? ⟨gbAa, 3, none⟩ = some (.int .i64 0) := (blk_cell BKAa.out 3).trans rfl; have hcz32_4 : w29.cell? ⟨gbAa, 4, none⟩ = some (.int .i64 0) := (blk_cell BKAa.out 4).trans rfl; have hcz32_5 : w29.cell? ⟨gbAa, 5, none⟩ = some (.slice none 0 0) := (blk_cell BKAa.out 5).trans rfl; have hfz32_0 := blk_frozen BKAa.out 0; have hfz32_1 := blk_frozen BKAa.out 1; have hfz32_2 := blk_frozen BKAa.out 2; have hfz32_3 := blk_frozen BKAa.out 3; have hfz32_4 := blk_frozen BKAa.out 4; have hfz32_5 := blk_frozen BKAa.out 5; obtain ⟨Ao33, co33, eo33⟩ := Kd.R_slice HOAh.out; subst eo33))
  have n0_ : Aside0 (Kd.R (Kd.int .i64) 3 ((((((w29.setCell ⟨gbAa, 0, none⟩ (.int .i64 tAg)).setCell ⟨gbAa, 1, none⟩ (.int .i64 tAm)).setCell ⟨gbAa, 2, none⟩ (.int .i64 tAn)).setCell ⟨gbAa, 3, none⟩ (.int .i64 tAp)).setCell ⟨gbAa, 4, none⟩ (.int .i64 tAq)).setCell ⟨gbAa, 5, none⟩ (.slice Ao33 tAj.length co33)) w.heap.size (fun _ => True) (.slice Ao33 tAj.length co33) tAj) := ⟨by (with_reducible repeat (first | apply Kd.R_alloc | apply Kd.R_drewN | apply Kd.R_drew)); exact Kd.R_mono (Kd.R_far (p := ⟨gbAa, 5, none⟩) (Kd.R_far (p := ⟨gbAa, 4, none⟩) (Kd.R_far (p := ⟨gbAa, 3, none⟩) (Kd.R_far (p := ⟨gbAa, 2, none⟩) (Kd.R_far (p := ⟨gbAa, 1, none⟩) (Kd.R_far (p := ⟨gbAa, 0, none⟩) (Kd.R_types HOAh.out BKAa.out (by decide)) (fun _ hk => hk.2) (.int .i64 tAg)) (fun _ hk => hk.2) (.int .i64 tAm)) (fun _ hk => hk.2) (.int .i64 tAn)) (fun _ hk => hk.2) (.int .i64 tAp)) (fun _ hk => hk.2) (.int .i64 tAq)) (fun _ hk => hk.2) (.slice Ao33 tAj.length co33)) (fun _ hk => trivial)⟩
  have n1_ : Aside0 (((((((w29.setCell ⟨gbAa, 0, none⟩ (.int .i64 tAg)).setCell ⟨gbAa, 1, none⟩ (.int .i64 tAm)).setCell ⟨gbAa, 2, none⟩ (.int .i64 tAn)).setCell ⟨gbAa, 3, none⟩ (.int .i64 tAp)).setCell ⟨gbAa, 4, none⟩ (.int .i64 tAq)).setCell ⟨gbAa, 5, none⟩ (.slice Ao33 tAj.length co33)).heap[gbAe]? = some (.cells #[.int .i64 a0_0, .int .i64 a0_1, .int .i64 a0_2, .int .i64 a0_3, .int .i64 a0_4, .slice A0_5 l0_5.length c0_5] 24 (0, 0))) := ⟨by (with_reducible repeat (first | refine blk_drewN ?_ _ | refine blk_drew ?_ | refine blk_alloc ?_ _)); refine blk_far ?_ NBAe_Aa.out _; refine blk_far ?_ NBAe_Aa.out _; refine blk_far ?_ NBAe_Aa.out _; refine blk_far ?_ NBAe_Aa.out _; refine blk_far ?_ NBAe_Aa.out _; refine blk_far ?_ NBAe_Aa.out _; (with_reducible repeat (first | refine blk_drewN ?_ _ | refine blk_drew ?_ | refine blk_alloc ?_ _)); exact BKAe.out⟩
  have n2_ : Aside0 (((((((w29.setCell ⟨gbAa, 0, none⟩ (.int .i64 tAg)).setCell ⟨gbAa, 1, none⟩ (.int .i64 tAm)).setCell ⟨gbAa, 2, none⟩ (.int .i64 tAn)).setCell ⟨gbAa, 3, none⟩ (.int .i64 tAp)).setCell ⟨gbAa, 4, none⟩ (.int .i64 tAq)).setCell ⟨gbAa, 5, none⟩ (.slice Ao33 tAj.length co33)).heap[gbAd]? = some (.cells #[.int .i64 a1_0, .int .i64 a1_1, .int .i64 a1_2, .int .i64 a1_3, .int .i64 a1_4, .slice A1_5 l1_5.length c1_5] 29 (0, 0))) := ⟨by (with_reducible repeat (first | refine blk_drewN ?_ _ | refine blk_drew ?_ | refine blk_alloc ?_ _)); refine blk_far ?_ NBAd_Aa.out _; refine blk_far ?_ NBAd_Aa.out _; refine blk_far ?_ NBAd_Aa.out _; refine blk_far ?_ NBAd_Aa.out _; refine blk_far ?_ NBAd_Aa.out _; refine blk_far ?_ NBAd_Aa.out _; (with_reducible repeat (first | refine blk_drewN ?_ _ | refine blk_drew ?_ | refine blk_alloc ?_ _)); exact BKAd.out⟩
  have n3_ : Aside0 (((((((w29.setCell ⟨gbAa, 0, none⟩ (.int .i64 tAg)).setCell ⟨gbAa, 1, none⟩ (.int .i64 tAm)).setCell ⟨gbAa, 2, none⟩ (.int .i64 tAn)).setCell ⟨gbAa, 3, none⟩ (.int .i64 tAp)).setCell ⟨gbAa, 4, none⟩ (.int .i64 tAq)).setCell ⟨gbAa, 5, none⟩ (.slice Ao33 tAj.length co33)).heap[gbAa]? = some (.cells #[.int .i64 tAg, .int .i64 tAm, .int .i64 tAn, .int .i64 tAp, .int .i64 tAq, .slice Ao33 tAj.length co33] 24 (0, 0))) := ⟨by (with_reducible repeat (first | refine blk_drewN ?_ _ | refine blk_drew ?_ | refine blk_alloc ?_ _)); refine blk_put (cs := #[.int .i64 tAg, .int .i64 tAm, .int .i64 tAn, .int .i64 tAp, .int .i64 tAq, .slice none 0 0]) ?_ 5 _ rfl; refine blk_put (cs := #[.int .i64 tAg, .int .i64 tAm, .int .i64 tAn, .int .i64 tAp, .int .i64 0, .slice none 0 0]) ?_ 4 _ rfl; refine blk_put (cs := #[.int .i64 tAg, .int .i64 tAm, .int .i64 tAn, .int .i64 0, .int .i64 0, .slice none 0 0]) ?_ 3 _ rfl; refine blk_put (cs := #[.int .i64 tAg, .int .i64 tAm, .int .i64 0, .int .i64 0, .int .i64 0, .slice none 0 0]) ?_ 2 _ rfl; refine blk_put (cs := #[.int .i64 tAg, .int .i64 0, .int .i64 0, .int .i64 0, .int .i64 0, .slice none 0 0]) ?_ 1 _ rfl; refine blk_put (cs := #[.int .i64 0, .int .i64 0, .int .i64 0, .int .i64 0, .int .i64 0, .slice none 0 0]) ?_ 0 _ rfl; (with_reducible repeat (first | refine blk_drewN ?_ _ | refine blk_drew ?_ | refine blk_alloc ?_ _)); exact BKAa.out⟩
  have n4_ : Aside0 (Below w.heap.size w ((((((w29.setCell ⟨gbAa, 0, none⟩ (.int .i64 tAg)).setCell ⟨gbAa, 1, none⟩ (.int .i64 tAm)).setCell ⟨gbAa, 2, none⟩ (.int .i64 tAn)).setCell ⟨gbAa, 3, none⟩ (.int .i64 tAp)).setCell ⟨gbAa, 4, none⟩ (.int .i64 tAq)).setCell ⟨gbAa, 5, none⟩ (.slice Ao33 tAj.length co33))) := ⟨by repeat (first | (with_reducible first | exact HB.out | apply below_alloc | apply pw_below_drewN | apply below_drew1 | refine below_set ?_ GEAe.out | refine below_set ?_ GEAd.out | refine below_set ?_ GEAa.out) | exact HB.out)⟩
  (try clear HOAh)
  (try clear BKAe)
  (try clear BKAd)
  (try clear BKAa)
  (try clear HB)
  generalize ((((((w29.setCell ⟨gbAa, 0, none⟩ (.int .i64 tAg)).setCell ⟨gbAa, 1, none⟩ (.int .i64 tAm)).setCell ⟨gbAa, 2, none⟩ (.int .i64 tAn)).setCell ⟨gbAa, 3, none⟩ (.int .i64 tAp)).setCell ⟨gbAa, 4, none⟩ (.int .i64 tAq)).setCell ⟨gbAa, 5, none⟩ (.slice Ao33 tAj.length co33)) = w34 at n0_ n1_ n2_ n3_ n4_ ⊢
  have HOAh := n0_
  have BKAe := n1_
  have BKAd := n2_
  have BKAa := n3_
  have HB := n4_
  clear n0_ n1_ n2_ n3_ n4_
  replace HOAh := Aside0.mk (Kd.R_drew HOAh.out)
  replace BKAe := Aside0.mk (blk_drew BKAe.out)
  replace BKAd := Aside0.mk (blk_drew BKAd.out)
  replace BKAa := Aside0.mk (blk_drew BKAa.out)
  replace HB := Aside0.mk (below_drew1 HB.out)
  refine start_ (n := 7) (S := fun w' => w'.cell? ⟨gbAa, 0, none⟩ = some (.int .i64 tAg) ∧ w'.cell? ⟨gbAa, 1, none⟩ = some (.int .i64 tAm) ∧ w'.cell? ⟨gbAa, 2, none⟩ = some (.int .i64 tAn) ∧ w'.cell? ⟨gbAa, 3, none⟩ = some (.int .i64 tAp) ∧ w'.cell? ⟨gbAa, 4, none⟩ = some (.int .i64 tAq) ∧ w'.cell? ⟨gbAa, 5, none⟩ = some (.slice Ao33 tAj.length co33) ∧ w'.cell? ⟨gbAd, 0, none⟩ = some (.int .i64 a1_0) ∧ w'.cell? ⟨gbAd, 1, none⟩ = some (.int .i64 a1_1) ∧ w'.cell? ⟨gbAd, 2, none⟩ = some (.int .i64 a1_2) ∧ w'.cell? ⟨gbAd, 3, none⟩ = some (.int .i64 a1_3) ∧ w'.cell? ⟨gbAd, 4, none⟩ = some (.int .i64 a1_4) ∧ w'.cell? ⟨gbAd, 5, none⟩ = some (.slice A1_5 l1_5.length c1_5)) (ds := []) #[false, false, false, false, false, false, false] (by kernel_rfl) rfl rfl ⟨(blk_cell BKAa.out 0).trans rfl, (blk_cell BKAa.out 1).trans rfl, (blk_cell BKAa.out 2).trans rfl, (blk_cell BKAa.out 3).trans rfl, (blk_cell BKAa.out 4).trans rfl, (blk_cell BKAa.out 5).trans rfl, (blk_cell BKAd.out 0).trans rfl, (blk_cell BKAd.out 1).trans rfl, (blk_cell BKAd.out 2).trans rfl, (blk_cell BKAd.out 3).trans rfl, (blk_cell BKAd.out 4).trans rfl, (blk_cell BKAd.out 5).trans rfl⟩ (fun hHeld => ?_)
  generalize w34.drew = w35 at HOAh BKAe BKAd BKAa HB hHeld ⊢
  refine pure_ (i := 3) (N := some 28) (v := ?_) (a' := ?_) #[false, false, false, true, false, false, false] rfl rfl (by kernel_rfl) (fun _ _ _ h => h) (Or.inl ⟨by rfl, ?_⟩) ?_ ?_
  rotate_left
  ·
   intro w'
   go_simp
   with_reducible rfl
  rotate_left
  ·
   simp only [Act.put, List.setIfInBounds_toArray, List.set_cons_zero, List.set_cons_succ, i64_w, i32_w]
   rfl
  refine take_ (i := 0) (N := some 25) (v := ?_) (a' := ?_) #[true, false, false, true, false, false, false] rfl rfl (by kernel_rfl) (fun _ _ _ h => h) (Or.inl ⟨by rfl, ?_⟩) hHeld ?_ ?_
  rotate_left
  ·
   rintro w' ⟨s0, s1, s2, s3, s4, s5, s6, s7, s8, s9, s10, s11⟩
   go_simp
   with_reducible rfl
  rotate_left
  ·
   simp only [Act.put, List.setIfInBounds_toArray, List.set_cons_zero, List.set_cons_succ, i64_w, i32_w]
   rfl
  refine take_ (i := 1) (N := some 26) (v := ?_) (a' := ?_) #[true, true, false, true, false, false, false] rfl rfl (by kernel_rfl) (fun _ _ _ h => h) (Or.inl ⟨by rfl, ?_⟩) hHeld ?_ ?_
  rotate_left
  ·
   rintro w' ⟨s0, s1, s2, s3, s4, s5, s6, s7, s8, s9, s10, s11⟩
   go_simp
   with_reducible rfl
  rotate_left
  ·
   simp only [Act.put, List.setIfInBounds_toArray, List.set_cons_zero, List.set_cons_succ, i64_w, i32_w]
   rfl
  refine take_ (i := 2) (N := some 27) (v := ?_) (a' := ?_) #[true, true, true, true, false, false, false] rfl rfl (by kernel_rfl) (fun _ _ _ h => h) (Or.inl ⟨by rfl, ?_⟩) hHeld ?_ ?_
  rotate_left
  ·
   rintro w' ⟨s0, s1, s2, s3, s4, s5, s6, s7, s8, s9, s10, s11⟩
   go_simp
   with_reducible rfl
  rotate_left
  ·
   simp only [Act.put, List.setIfInBounds_toArray, List.set_cons_zero, List.set_cons_succ, i64_w, i32_w]
   rfl
  refine one_ (i := 4) (N := some 29) #[true, true, true, true, true, false, false] rfl rfl (by kernel_rfl) (by decide) (fun K hK => ?_)
  refine gs_ Try.func21 #[.agg #[.int .i64 tAg, .int .i64 tAm, .int .i64 tAn, .int .i64 tAp, .int .i64 tAq, .slice Ao33 tAj.length co33], .agg #[.int .i64 a1_0, .int .i64 a1_1, .int .i64 a1_2, .int .i64 a1_3, .int .i64 a1_4, .slice A1_5 l1_5.length c1_5], .slice A2 l2.length c2] ?_
  with_reducible refine (plaitinglaw5_Make.calls k tAg tAm tAn tAp tAq _ _ tAj a1_0 a1_1 a1_2 a1_3 a1_4 _ _ l1_5 _ _ l2 tBk tCc tCd tCe tCf tAw _ ?side1 ?side2 ?side3 ?side4 ?side5 ?side6 A9.out).mono ?_
  (case side1 => exact cC_ (Kd.R_reads' HOAh.out).2.2)
  (case side2 => exact (Kd.R_reads' HOAh.out).2.1)
  (case side3 => exact cC_ (Kd.C_below HR1_5.out HB.out))
  (case side4 => exact HC1_5.out)
  (case side5 => exact cC_ (Kd.C_below HR2.out HB.out))
  (case side6 => exact HC2.out)
  rintro e w36 ⟨vCi, rfl, ho0, hb⟩
  refine ⟨_, rfl, ?_⟩
  have HOAi := Aside0.mk (Kd.R_lower ho0 (below_size (pH_ HB.out)))
  replace HOAh := Aside0.mk (Kd.R_below (pR_ HOAh.out) hb)
  replace BKAe := Aside0.mk (blk_below (pB_ BKAe.out) hb)
  replace BKAd := Aside0.mk (blk_below (pB_ BKAd.out) hb)
  replace BKAa := Aside0.mk (blk_below (pB_ BKAa.out) hb)
  replace HB := Aside0.mk (below_step (pH_ HB.out) hb)
  (try clear hb)
  (try clear hb2)
  (try clear hk)
  (try clear hi)
  (try clear ho0)
  obtain ⟨Ao37, co37, eo37⟩ := Kd.R_slice HOAi.out
  (first | subst eo37 | (injection eo37 with f1_ f2_ f3_; have f4_ := f1_.symm; have f5_ := f3_.symm; clear f1_ f2_ f3_; subst f4_; subst f5_))
  refine hK.out _ _ ⟨(blk_cell BKAa.out 0).trans rfl, (blk_cell BKAa.out 1).trans rfl, (blk_cell BKAa.out 2).trans rfl, (blk_cell BKAa.out 3).trans rfl, (blk_cell BKAa.out 4).trans rfl, (blk_cell BKAa.out 5).trans rfl, (blk_cell BKAd.out 0).trans rfl, (blk_cell BKAd.out 1).trans rfl, (blk_cell BKAd.out 2).trans rfl, (blk_cell BKAd.out 3).trans rfl, (blk_cell BKAd.out 4).trans rfl, (blk_cell BKAd.out 5).trans rfl⟩ (fun hHeld => ?_)
  clear hK K
  refine nq_ 29 ?_
  refine one_ (i := 5) (N := some 30) #[true, true, true, true, true, true, false] rfl rfl (by kernel_rfl) (by decide) (fun K hK => ?_)
  refine gs_ Try.func26 #[.agg #[.int .i64 tAg, .int .i64 tAm, .int .i64 tAn, .int .i64 tAp, .int .i64 tAq, .slice Ao33 tAj.length co33], .agg #[.int .i64 tBk, .int .i64 tCc, .int .i64 tCd, .int .i64 tCe, .int .i64 tCf, .slice Ao37 tAw.length co37]] ?_
  with_reducible refine (frame_Text.calls tAg tAm tAn tAp tAq _ _ tAj tBk tCc tCd tCe tCf _ _ tAw tAr _ ?side1 ?side2 ?side3 ?side4 A10.out).mono ?_
  (case side1 => exact cC_ (Kd.R_reads' HOAh.out).2.2)
  (case side2 => exact (Kd.R_reads' HOAh.out).2.1)
  (case side3 => exact cC_ (Kd.R_reads' HOAi.out).2.2)
  (case side4 => exact (Kd.R_reads' HOAi.out).2.1)
  rintro e w38 ⟨rfl, hb⟩
  refine ⟨_, rfl, ?_⟩
  replace HOAh := Aside0.mk (Kd.R_below (pR_ HOAh.out) hb)
  replace HOAi := Aside0.mk (Kd.R_below (pR_ HOAi.out) hb)
  replace BKAe := Aside0.mk (blk_below (pB_ BKAe.out) hb)
  replace BKAd := Aside0.mk (blk_below (pB_ BKAd.out) hb)
  replace BKAa := Aside0.mk (blk_below (pB_ BKAa.out) hb)
  replace HB := Aside0.mk (below_step (pH_ HB.out) hb)
  (try clear hb)
  (try clear hb2)
  (try clear hk)
  (try clear hi)
  refine hK.out _ _ ⟨(blk_cell BKAa.out 0).trans rfl, (blk_cell BKAa.out 1).trans rfl, (blk_cell BKAa.out 2).trans rfl, (blk_cell BKAa.out 3).trans rfl, (blk_cell BKAa.out 4).trans rfl, (blk_cell BKAa.out 5).trans rfl, (blk_cell BKAd.out 0).trans rfl, (blk_cell BKAd.out 1).trans rfl, (blk_cell BKAd.out 2).trans rfl, (blk_cell BKAd.out 3).trans rfl, (blk_cell BKAd.out 4).trans rfl, (blk_cell BKAd.out 5).trans rfl⟩ (fun hHeld => ?_)
  clear hK K
  refine nq_ 30 ?_
  refine pure_ (i := 6) (N := some 12) (v := ?_) (a' := ?_) #[true, true, true, true, true, true, true] rfl rfl (by kernel_rfl) (fun _ _ _ h => h) (Or.inl ⟨by rfl, ?_⟩) ?_ ?_
  rotate_left
  ·
   intro w'
   go_simp
   with_reducible rfl
  rotate_left
  ·
   simp only [Act.put, List.setIfInBounds_toArray, List.set_cons_zero, List.set_cons_succ, i64_w, i32_w]
   rfl
  refine done_ (by kernel_rfl) ?_
  try go_wp2_with (first | ((with_reducible refine gate_callee (f := 24) rfl ?_); refine gL_ 35 Try.func24 #[.int .i64 a3, .int .i64 (wrap64 ((tAr.size : Int) - 1))] ?_; (with_reducible refine (plaitinglaw5_within.calls a3 (wrap64 ((tAr.size : Int) - 1)) tAy _ A11.out).mono ?_); rintro e w' ⟨rfl, ⟨nd, rfl⟩⟩; refine ⟨_, rfl, ?_⟩; (try (rw [drewN_self w38]; generalize hq_ : World.drewN w38 _ = w38; have n0_ : Aside0 (Kd.R (Kd.int .i64) 3 w38 w.heap.size (fun _ => True) (.slice Ao33 tAj.length co33) tAj) := ⟨by rw [← hq_]; exact (pR_ HOAh.out)⟩; have n1_ : Aside0 (Kd.R k26 26 w38 w.heap.size (fun _ => True) (.slice Ao37 tAw.length co37) tAw) := ⟨by rw [← hq_]; exact (pR_ HOAi.out)⟩; have n2_ : Aside0 (w38.heap[gbAe]? = some (.cells #[.int .i64 a0_0, .int .i64 a0_1, .int .i64 a0_2, .int .i64 a0_3, .int .i64 a0_4, .slice A0_5 l0_5.length c0_5] 24 (0, 0))) := ⟨by rw [← hq_]; exact (pB_ BKAe.out)⟩; have n3_ : Aside0 (w38.heap[gbAd]? = some (.cells #[.int .i64 a1_0, .int .i64 a1_1, .int .i64 a1_2, .int .i64 a1_3, .int .i64 a1_4, .slice A1_5 l1_5.length c1_5] 29 (0, 0))) := ⟨by rw [← hq_]; exact (pB_ BKAd.out)⟩; have n4_ : Aside0 (w38.heap[gbAa]? = some (.cells #[.int .i64 tAg, .int .i64 tAm, .int .i64 tAn, .int .i64 tAp, .int .i64 tAq, .slice Ao33 tAj.length co33] 24 (0, 0))) := ⟨by rw [← hq_]; exact (pB_ BKAa.out)⟩; have n5_ : Aside0 (Below w.heap.size w w38) := ⟨by rw [← hq_]; exact (pH_ HB.out)⟩; clear HOAh HOAi BKAe BKAd BKAa HB hq_; have HOAh := n0_; have HOAi := n1_; have BKAe := n2_; have BKAd := n3_; have BKAa := n4_; have HB := n5_; clear n0_ n1_ n2_ n3_ n4_ n5_))) | ((with_reducible refine gate_callee (f := 24) rfl ?_); refine gL_ 40 Try.func24 #[.int .i64 a4, .int .i64 (wrap64 ((tAr.size : Int) - 1))] ?_; (with_reducible refine (plaitinglaw5_within.calls a4 (wrap64 ((tAr.size : Int) - 1)) tBc _ A12.out).mono ?_); rintro e w' ⟨rfl, ⟨nd, rfl⟩⟩; refine ⟨_, rfl, ?_⟩; (try (rw [drewN_self w38]; generalize hq_ : World.drewN w38 _ = w38; have n0_ : Aside0 (Kd.R (Kd.int .i64) 3 w38 w.heap.size (fun _ => True) (.slice Ao33 tAj.length co33) tAj) := ⟨by rw [← hq_]; exact (pR_ HOAh.out)⟩; have n1_ : Aside0 (Kd.R k26 26 w38 w.heap.size (fun _ => True) (.slice Ao37 tAw.length co37) tAw) := ⟨by rw [← hq_]; exact (pR_ HOAi.out)⟩; have n2_ : Aside0 (w38.heap[gbAe]? = some (.cells #[.int .i64 a0_0, .int .i64 a0_1, .int .i64 a0_2, .int .i64 a0_3, .int .i64 a0_4, .slice A0_5 l0_5.length c0_5] 24 (0, 0))) := ⟨by rw [← hq_]; exact (pB_ BKAe.out)⟩; have n3_ : Aside0 (w38.heap[gbAd]? = some (.cells #[.int .i64 a1_0, .int .i64 a1_1, .int .i64 a1_2, .int .i64 a1_3, .int .i64 a1_4, .slice A1_5 l1_5.length c1_5] 29 (0, 0))) := ⟨by rw [← hq_]; exact (pB_ BKAd.out)⟩; have n4_ : Aside0 (w38.heap[gbAa]? = some (.cells #[.int .i64 tAg, .int .i64 tAm, .int .i64 tAn, .int .i64 tAp, .int .i64 tAq, .slice Ao33 tAj.length co33] 24 (0, 0))) := ⟨by rw [← hq_]; exact (pB_ BKAa.out)⟩; have n5_ : Aside0 (Below w.heap.size w w38) := ⟨by rw [← hq_]; exact (pH_ HB.out)⟩; clear HOAh HOAi BKAe BKAd BKAa HB hq_; have HOAh := n0_; have HOAi := n1_; have BKAe := n2_; have BKAd := n3_; have BKAa := n4_; have HB := n5_; clear n0_ n1_ n2_ n3_ n4_ n5_))))
  replace HOAh := Aside0.mk (Kd.R_drew HOAh.out)
  replace HOAi := Aside0.mk (Kd.R_drew HOAi.out)
  replace BKAe := Aside0.mk (blk_drew BKAe.out)
  replace BKAd := Aside0.mk (blk_drew BKAd.out)
  replace BKAa := Aside0.mk (blk_drew BKAa.out)
  replace HB := Aside0.mk (below_drew1 HB.out)
  refine start_ (n := 11) (S := fun w' => w'.cell? ⟨gbAa, 0, none⟩ = some (.int .i64 tAg) ∧ w'.cell? ⟨gbAa, 1, none⟩ = some (.int .i64 tAm) ∧ w'.cell? ⟨gbAa, 2, none⟩ = some (.int .i64 tAn) ∧ w'.cell? ⟨gbAa, 3, none⟩ = some (.int .i64 tAp) ∧ w'.cell? ⟨gbAa, 4, none⟩ = some (.int .i64 tAq) ∧ w'.cell? ⟨gbAa, 5, none⟩ = some (.slice Ao33 tAj.length co33)) (ds := []) #[false, false, false, false, false, false, false, false, false, false, false] (by kernel_rfl) rfl rfl ⟨(blk_cell BKAa.out 0).trans rfl, (blk_cell BKAa.out 1).trans rfl, (blk_cell BKAa.out 2).trans rfl, (blk_cell BKAa.out 3).trans rfl, (blk_cell BKAa.out 4).trans rfl, (blk_cell BKAa.out 5).trans rfl⟩ (fun hHeld => ?_); refine with_tabW plaitinglaw5_FrameTurn.tab6 plaitinglaw5_FrameTurn.bits6 (fun HT_ HW_ => ?_)
  generalize w38.drew = w39 at HOAh HOAi BKAe BKAd BKAa HB hHeld ⊢
  refine pq_ 1 43 HT_ ?_
  refine pq_ 2 44 HT_ ?_
  refine tq_ 0 42 HT_ HW_ hHeld ?_
  refine join_ (σ := Value × Nat) 2 #[true, true, true, true, true, true, true, true, true, false, false] (fun s_ => [(45, .string tBp), (46, .tuple #[.agg #[.int .i64 tAv, .int .i64 tBa, .int .i64 tBd, .int .i64 tBf, .int .i64 tBh, s_.1], .int .i64 tBr]), (15, .pointer (some ⟨s_.2, 0, none⟩)), (41, .tuple #[.agg #[.int .i64 tAv, .int .i64 tBa, .int .i64 tBd, .int .i64 tBf, .int .i64 tBh, s_.1], .int .i64 tBr]), (47, .agg #[.int .i64 tAv, .int .i64 tBa, .int .i64 tBd, .int .i64 tBf, .int .i64 tBh, s_.1]), (48, .int .i64 tBr)]) (fun s_ w' => (w'.cell? ⟨gbAa, 0, none⟩ = some (.int .i64 tAg) ∧ w'.cell? ⟨gbAa, 1, none⟩ = some (.int .i64 tAm) ∧ w'.cell? ⟨gbAa, 2, none⟩ = some (.int .i64 tAn) ∧ w'.cell? ⟨gbAa, 3, none⟩ = some (.int .i64 tAp) ∧ w'.cell? ⟨gbAa, 4, none⟩ = some (.int .i64 tAq) ∧ w'.cell? ⟨gbAa, 5, none⟩ = some (.slice Ao33 tAj.length co33)) ∧ (Kd.R (Kd.int .i64) 3 w' w.heap.size (fun _ => True) (.slice Ao33 tAj.length co33) tAj) ∧ (Kd.R k26 26 w' w.heap.size (fun k_ => some k_ ≠ (s_.1 : Value).ownBlock) (.slice Ao37 tAw.length co37) tAw) ∧ (Kd.R k26 26 w' w.heap.size (fun k_ => some k_ ≠ (.slice Ao37 tAw.length co37 : Value).ownBlock) s_.1 tAt) ∧ (w'.heap[gbAe]? = some (.cells #[.int .i64 a0_0, .int .i64 a0_1, .int .i64 a0_2, .int .i64 a0_3, .int .i64 a0_4, .slice A0_5 l0_5.length c0_5] 24 (0, 0))) ∧ (w'.heap[gbAd]? = some (.cells #[.int .i64 a1_0, .int .i64 a1_1, .int .i64 a1_2, .int .i64 a1_3, .int .i64 a1_4, .slice A1_5 l1_5.length c1_5] 29 (0, 0))) ∧ (w'.heap[gbAa]? = some (.cells #[.int .i64 tAg, .int .i64 tAm, .int .i64 tAn, .int .i64 tAp, .int .i64 tAq, .slice Ao33 tAj.length co33] 24 (0, 0))) ∧ (w'.heap[s_.2]? = some (.cells #[.int .i64 0, .int .i64 0, .int .i64 0, .int .i64 0, .int .i64 0, .slice none 0 0] 29 (0, 0))) ∧ (w.heap.size ≤ s_.2) ∧ (w.heap.size ≤ s_.2) ∧ (gbAe ≠ s_.2) ∧ (s_.2 ≠ gbAe) ∧ (gbAd ≠ s_.2) ∧ (s_.2 ≠ gbAd) ∧ (gbAa ≠ s_.2) ∧ (s_.2 ≠ gbAa) ∧ (Below w.heap.size w w')) ?_ ?_
  rotate_left
  ·
   intro hCont
   refine two_ (i := 3) (j := 8) (Ni := some 45) (Nj := some 15) #[true, true, true, true, false, false, false, false, false, false, false] #[true, true, true, false, false, false, false, false, true, false, false] rfl rfl rfl rfl (two_of HT_.out (by kernel_rfl)) (by decide) (by decide) (fun K hK => ?_) (fun K hK => ?_)
   ·
    skip
    refine gs_ Try.func32 #[.string tAr, .int .i64 tAy] ?_
    with_reducible refine (plaitingref1_Turn.calls k tAr tAy tBp _ A13.out).mono ?_
    rintro e w' ⟨rfl, ⟨nd, rfl⟩⟩
    refine ⟨_, rfl, ?_⟩
    refine hK.out _ _ ⟨(blk_cell BKAa.out 0).trans rfl, (blk_cell BKAa.out 1).trans rfl, (blk_cell BKAa.out 2).trans rfl, (blk_cell BKAa.out 3).trans rfl, (blk_cell BKAa.out 4).trans rfl, (blk_cell BKAa.out 5).trans rfl⟩ (fun hHeld => ?_)
    clear hK K
    refine nq_ 45 ?_
    refine two_ (i := 4) (j := 8) (Ni := some 46) (Nj := some 15) #[true, true, true, true, true, false, false, false, false, false, false] #[true, true, true, true, false, false, false, false, true, false, false] rfl rfl rfl rfl (two_of HT_.out (by kernel_rfl)) (by decide) (by decide) (fun K hK => ?_) (fun K hK => ?_)
    ·
     skip
     refine gs_ Try.func35 #[.agg #[.int .i64 tAg, .int .i64 tAm, .int .i64 tAn, .int .i64 tAp, .int .i64 tAq, .slice Ao33 tAj.length co33], .string tBp] ?_
     with_reducible refine (frame_Read.calls tAg tAm tAn tAp tAq _ _ tAj tBp tAv tBa tBd tBf tBh tAt tBr _ ?side1 ?side2 A14.out).mono ?_
     (case side1 => exact cC_ (Kd.R_reads' HOAh.out).2.2)
     (case side2 => exact (Kd.R_reads' HOAh.out).2.1)
     rintro e w40 ⟨vBw, rfl, ho0, hb⟩
     refine ⟨_, rfl, ?_⟩
     have HOAk := Aside0.mk (Kd.R_lower (Kd.R_new' ho0 (Kd.R_lt (pR_ HOAi.out))) (below_size (pH_ HB.out)))
     replace HOAh := Aside0.mk (Kd.R_below (pR_ HOAh.out) hb)
     replace HOAi := Aside0.mk (Kd.R_elder' (pR_ HOAi.out) (Kd.R_base ho0) hb)
     replace BKAe := Aside0.mk (blk_below (pB_ BKAe.out) hb)
     replace BKAd := Aside0.mk (blk_below (pB_ BKAd.out) hb)
     replace BKAa := Aside0.mk (blk_below (pB_ BKAa.out) hb)
     replace HB := Aside0.mk (below_step (pH_ HB.out) hb)
     (try clear hb)
     (try clear hb2)
     (try clear hk)
     (try clear hi)
     (try clear ho0)
     refine hK.out _ _ ⟨(blk_cell BKAa.out 0).trans rfl, (blk_cell BKAa.out 1).trans rfl, (blk_cell BKAa.out 2).trans rfl, (blk_cell BKAa.out 3).trans rfl, (blk_cell BKAa.out 4).trans rfl, (blk_cell BKAa.out 5).trans rfl⟩ (fun hHeld => ?_)
     clear hK K
     refine nq_ 46 ?_
     refine pq_ 5 41 HT_ ?_
     refine pq_ 6 47 HT_ ?_
     refine pq_ 7 48 HT_ ?_
     refine oq_ 8 15 HT_ (fun K hK => ?_)
     refine box_step ?hg (N := 15) ?hd (cs := #[.int .i64 0, .int .i64 0, .int .i64 0, .int .i64 0, .int .i64 0, .slice none 0 0]) (t := 29) ?hr ?_; (case hd => rfl); (case hg => rfl); (case hr => first | (go_simp; done) | (go_simp; rfl))
     intro gbAb hg w41 hbox hb
     have BKAb := Aside0.mk (hbox)
     have GWAb := Aside0.mk ((by rw [hg]; exact (below_size (pH_ HB.out)) : w.heap.size ≤ gbAb))
     have GEAb := Aside0.mk ((by rw [hg]; exact (below_size (pH_ HB.out)) : w.heap.size ≤ gbAb))
     have NBAe_Ab := Aside0.mk (ltB_ hg BKAe.out)
     have NBAb_Ae := Aside0.mk (ltB_ hg BKAe.out).symm
     have NBAd_Ab := Aside0.mk (ltB_ hg BKAd.out)
     have NBAb_Ad := Aside0.mk (ltB_ hg BKAd.out).symm
     have NBAa_Ab := Aside0.mk (ltB_ hg BKAa.out)
     have NBAb_Aa := Aside0.mk (ltB_ hg BKAa.out).symm
     replace HOAh := Aside0.mk (Kd.R_below (pR_ HOAh.out) hb)
     replace HOAi := Aside0.mk (Kd.R_below (pR_ HOAi.out) hb)
     replace HOAk := Aside0.mk (Kd.R_below (pR_ HOAk.out) hb)
     replace BKAe := Aside0.mk (blk_below (pB_ BKAe.out) hb)
     replace BKAd := Aside0.mk (blk_below (pB_ BKAd.out) hb)
     replace BKAa := Aside0.mk (blk_below (pB_ BKAa.out) hb)
     replace HB := Aside0.mk (below_step (pH_ HB.out) hb)
     clear hb hbox hg
     refine hK.out _ _ ⟨(blk_cell BKAa.out 0).trans rfl, (blk_cell BKAa.out 1).trans rfl, (blk_cell BKAa.out 2).trans rfl, (blk_cell BKAa.out 3).trans rfl, (blk_cell BKAa.out 4).trans rfl, (blk_cell BKAa.out 5).trans rfl⟩ (fun hHeld => ?_)
     clear hK K
     refine nq_ 15 ?_
     exact norm_ (by simp only [putAll, Act.put, List.setIfInBounds_toArray, List.set_cons_zero, List.set_cons_succ]) (hCont (vBw, gbAb) _ ⟨hHeld, (pR_ HOAh.out), (by (with_reducible repeat (first | apply Kd.R_alloc | apply Kd.R_drewN | apply Kd.R_drew)); exact Kd.R_mono HOAi.out (fun _ hk => hk.2)), (by (with_reducible repeat (first | apply Kd.R_alloc | apply Kd.R_drewN | apply Kd.R_drew)); exact Kd.R_mono HOAk.out (fun _ hk => hk.2)), (pB_ BKAe.out), (pB_ BKAd.out), (pB_ BKAa.out), (pB_ BKAb.out), GWAb.out, GEAb.out, NBAe_Ab.out, NBAb_Ae.out, NBAd_Ab.out, NBAb_Ad.out, NBAa_Ab.out, NBAb_Aa.out, (pH_ HB.out)⟩)
    skip
    refine box_step ?hg (N := 15) ?hd (cs := #[.int .i64 0, .int .i64 0, .int .i64 0, .int .i64 0, .int .i64 0, .slice none 0 0]) (t := 29) ?hr ?_; (case hd => rfl); (case hg => rfl); (case hr => first | (go_simp; done) | (go_simp; rfl))
    intro gbAb hg w40 hbox hb
    have BKAb := Aside0.mk (hbox)
    have GWAb := Aside0.mk ((by rw [hg]; exact (below_size (pH_ HB.out)) : w.heap.size ≤ gbAb))
    have GEAb := Aside0.mk ((by rw [hg]; exact (below_size (pH_ HB.out)) : w.heap.size ≤ gbAb))
    have NBAe_Ab := Aside0.mk (ltB_ hg BKAe.out)
    have NBAb_Ae := Aside0.mk (ltB_ hg BKAe.out).symm
    have NBAd_Ab := Aside0.mk (ltB_ hg BKAd.out)
    have NBAb_Ad := Aside0.mk (ltB_ hg BKAd.out).symm
    have NBAa_Ab := Aside0.mk (ltB_ hg BKAa.out)
    have NBAb_Aa := Aside0.mk (ltB_ hg BKAa.out).symm
    replace HOAh := Aside0.mk (Kd.R_below (pR_ HOAh.out) hb)
    replace HOAi := Aside0.mk (Kd.R_below (pR_ HOAi.out) hb)
    replace BKAe := Aside0.mk (blk_below (pB_ BKAe.out) hb)
    replace BKAd := Aside0.mk (blk_below (pB_ BKAd.out) hb)
    replace BKAa := Aside0.mk (blk_below (pB_ BKAa.out) hb)
    replace HB := Aside0.mk (below_step (pH_ HB.out) hb)
    clear hb hbox hg
    refine hK.out _ _ ⟨(blk_cell BKAa.out 0).trans rfl, (blk_cell BKAa.out 1).trans rfl, (blk_cell BKAa.out 2).trans rfl, (blk_cell BKAa.out 3).trans rfl, (blk_cell BKAa.out 4).trans rfl, (blk_cell BKAa.out 5).trans rfl⟩ (fun hHeld => ?_)
    clear hK K
    refine nq_ 15 ?_
    refine oq_ 4 46 HT_ (fun K hK => ?_)
    refine gs_ Try.func35 #[.agg #[.int .i64 tAg, .int .i64 tAm, .int .i64 tAn, .int .i64 tAp, .int .i64 tAq, .slice Ao33 tAj.length co33], .string tBp] ?_
    with_reducible refine (frame_Read.calls tAg tAm tAn tAp tAq _ _ tAj tBp tAv tBa tBd tBf tBh tAt tBr _ ?side1 ?side2 A14.out).mono ?_
    (case side1 => exact cC_ (Kd.R_reads' HOAh.out).2.2)
    (case side2 => exact (Kd.R_reads' HOAh.out).2.1)
    rintro e w41 ⟨vBw, rfl, ho0, hb⟩
    refine ⟨_, rfl, ?_⟩
    have HOAk := Aside0.mk (Kd.R_lower (Kd.R_new' ho0 (Kd.R_lt (pR_ HOAi.out))) (below_size (pH_ HB.out)))
    replace HOAh := Aside0.mk (Kd.R_below (pR_ HOAh.out) hb)
    replace HOAi := Aside0.mk (Kd.R_elder' (pR_ HOAi.out) (Kd.R_base ho0) hb)
    replace BKAe := Aside0.mk (blk_below (pB_ BKAe.out) hb)
    replace BKAd := Aside0.mk (blk_below (pB_ BKAd.out) hb)
    replace BKAa := Aside0.mk (blk_below (pB_ BKAa.out) hb)
    replace BKAb := Aside0.mk (blk_below (pB_ BKAb.out) hb)
    replace HB := Aside0.mk (below_step (pH_ HB.out) hb)
    (try clear hb)
    (try clear hb2)
    (try clear hk)
    (try clear hi)
    (try clear ho0)
    refine hK.out _ _ ⟨(blk_cell BKAa.out 0).trans rfl, (blk_cell BKAa.out 1).trans rfl, (blk_cell BKAa.out 2).trans rfl, (blk_cell BKAa.out 3).trans rfl, (blk_cell BKAa.out 4).trans rfl, (blk_cell BKAa.out 5).trans rfl⟩ (fun hHeld => ?_)
    clear hK K
    refine nq_ 46 ?_
    refine pq_ 5 41 HT_ ?_
    refine pq_ 6 47 HT_ ?_
    refine pq_ 7 48 HT_ ?_
    exact norm_ (by simp only [putAll, Act.put, List.setIfInBounds_toArray, List.set_cons_zero, List.set_cons_succ]) (hCont (vBw, gbAb) _ ⟨hHeld, (pR_ HOAh.out), (by (with_reducible repeat (first | apply Kd.R_alloc | apply Kd.R_drewN | apply Kd.R_drew)); exact Kd.R_mono HOAi.out (fun _ hk => hk.2)), (by (with_reducible repeat (first | apply Kd.R_alloc | apply Kd.R_drewN | apply Kd.R_drew)); exact Kd.R_mono HOAk.out (fun _ hk => hk.2)), (pB_ BKAe.out), (pB_ BKAd.out), (pB_ BKAa.out), (pB_ BKAb.out), GWAb.out, GEAb.out, NBAe_Ab.out, NBAb_Ae.out, NBAd_Ab.out, NBAb_Ad.out, NBAa_Ab.out, NBAb_Aa.out, (pH_ HB.out)⟩)
   skip
   refine box_step ?hg (N := 15) ?hd (cs := #[.int .i64 0, .int .i64 0, .int .i64 0, .int .i64 0, .int .i64 0, .slice none 0 0]) (t := 29) ?hr ?_; (case hd => rfl); (case hg => rfl); (case hr => first | (go_simp; done) | (go_simp; rfl))
   intro gbAb hg w40 hbox hb
   have BKAb := Aside0.mk (hbox)
   have GWAb := Aside0.mk ((by rw [hg]; exact (below_size (pH_ HB.out)) : w.heap.size ≤ gbAb))
   have GEAb := Aside0.mk ((by rw [hg]; exact (below_size (pH_ HB.out)) : w.heap.size ≤ gbAb))
   have NBAe_Ab := Aside0.mk (ltB_ hg BKAe.out)
   have NBAb_Ae := Aside0.mk (ltB_ hg BKAe.out).symm
   have NBAd_Ab := Aside0.mk (ltB_ hg BKAd.out)
   have NBAb_Ad := Aside0.mk (ltB_ hg BKAd.out).symm
   have NBAa_Ab := Aside0.mk (ltB_ hg BKAa.out)
   have NBAb_Aa := Aside0.mk (ltB_ hg BKAa.out).symm
   replace HOAh := Aside0.mk (Kd.R_below (pR_ HOAh.out) hb)
   replace HOAi := Aside0.mk (Kd.R_below (pR_ HOAi.out) hb)
   replace BKAe := Aside0.mk (blk_below (pB_ BKAe.out) hb)
   replace BKAd := Aside0.mk (blk_below (pB_ BKAd.out) hb)
   replace BKAa := Aside0.mk (blk_below (pB_ BKAa.out) hb)
   replace HB := Aside0.mk (below_step (pH_ HB.out) hb)
   clear hb hbox hg
   refine hK.out _ _ ⟨(blk_cell BKAa.out 0).trans rfl, (blk_cell BKAa.out 1).trans rfl, (blk_cell BKAa.out 2).trans rfl, (blk_cell BKAa.out 3).trans rfl, (blk_cell BKAa.out 4).trans rfl, (blk_cell BKAa.out 5).trans rfl⟩ (fun hHeld => ?_)
   clear hK K
   refine nq_ 15 ?_
   refine oq_ 3 45 HT_ (fun K hK => ?_)
   refine gs_ Try.func32 #[.string tAr, .int .i64 tAy] ?_
   with_reducible refine (plaitingref1_Turn.calls k tAr tAy tBp _ A13.out).mono ?_
   rintro e w' ⟨rfl, ⟨nd, rfl⟩⟩
   refine ⟨_, rfl, ?_⟩
   refine hK.out _ _ ⟨(blk_cell BKAa.out 0).trans rfl, (blk_cell BKAa.out 1).trans rfl, (blk_cell BKAa.out 2).trans rfl, (blk_cell BKAa.out 3).trans rfl, (blk_cell BKAa.out 4).trans rfl, (blk_cell BKAa.out 5).trans rfl⟩ (fun hHeld => ?_)
   clear hK K
   refine nq_ 45 ?_
   refine oq_ 4 46 HT_ (fun K hK => ?_)
   refine gs_ Try.func35 #[.agg #[.int .i64 tAg, .int .i64 tAm, .int .i64 tAn, .int .i64 tAp, .int .i64 tAq, .slice Ao33 tAj.length co33], .string tBp] ?_
   with_reducible refine (frame_Read.calls tAg tAm tAn tAp tAq _ _ tAj tBp tAv tBa tBd tBf tBh tAt tBr _ ?side1 ?side2 A14.out).mono ?_
   (case side1 => exact cC_ (Kd.R_reads' HOAh.out).2.2)
   (case side2 => exact (Kd.R_reads' HOAh.out).2.1)
   rintro e w41 ⟨vBw, rfl, ho0, hb⟩
   refine ⟨_, rfl, ?_⟩
   have HOAk := Aside0.mk (Kd.R_lower (Kd.R_new' ho0 (Kd.R_lt (pR_ HOAi.out))) (below_size (pH_ HB.out)))
   replace HOAh := Aside0.mk (Kd.R_below (pR_ HOAh.out) hb)
   replace HOAi := Aside0.mk (Kd.R_elder' (pR_ HOAi.out) (Kd.R_base ho0) hb)
   replace BKAe := Aside0.mk (blk_below (pB_ BKAe.out) hb)
   replace BKAd := Aside0.mk (blk_below (pB_ BKAd.out) hb)
   replace BKAa := Aside0.mk (blk_below (pB_ BKAa.out) hb)
   replace BKAb := Aside0.mk (blk_below (pB_ BKAb.out) hb)
   replace HB := Aside0.mk (below_step (pH_ HB.out) hb)
   (try clear hb)
   (try clear hb2)
   (try clear hk)
   (try clear hi)
   (try clear ho0)
   refine hK.out _ _ ⟨(blk_cell BKAa.out 0).trans rfl, (blk_cell BKAa.out 1).trans rfl, (blk_cell BKAa.out 2).trans rfl, (blk_cell BKAa.out 3).trans rfl, (blk_cell BKAa.out 4).trans rfl, (blk_cell BKAa.out 5).trans rfl⟩ (fun hHeld => ?_)
   clear hK K
   refine nq_ 46 ?_
   refine pq_ 5 41 HT_ ?_
   refine pq_ 6 47 HT_ ?_
   refine pq_ 7 48 HT_ ?_
   exact norm_ (by simp only [putAll, Act.put, List.setIfInBounds_toArray, List.set_cons_zero, List.set_cons_succ]) (hCont (vBw, gbAb) _ ⟨hHeld, (pR_ HOAh.out), (by (with_reducible repeat (first | apply Kd.R_alloc | apply Kd.R_drewN | apply Kd.R_drew)); exact Kd.R_mono HOAi.out (fun _ hk => hk.2)), (by (with_reducible repeat (first | apply Kd.R_alloc | apply Kd.R_drewN | apply Kd.R_drew)); exact Kd.R_mono HOAk.out (fun _ hk => hk.2)), (pB_ BKAe.out), (pB_ BKAd.out), (pB_ BKAa.out), (pB_ BKAb.out), GWAb.out, GEAb.out, NBAe_Ab.out, NBAb_Ae.out, NBAd_Ab.out, NBAb_Ad.out, NBAa_Ab.out, NBAb_Aa.out, (pH_ HB.out)⟩)
  rintro ⟨vBw, gbAb⟩ w42 ⟨hS_, h0_, h1_, h2_, h3_, h4_, h5_, h6_, h7_, h8_, h9_, h10_, h11_, h12_, h13_, h14_, h15_⟩
  have n0_ : Aside0 (Kd.R (Kd.int .i64) 3 w42 w.heap.size (fun _ => True) (.slice Ao33 tAj.length co33) tAj) := ⟨h0_⟩
  have n1_ : Aside0 (Kd.R k26 26 w42 w.heap.size (fun k_ => some k_ ≠ (vBw : Value).ownBlock) (.slice Ao37 tAw.length co37) tAw) := ⟨h1_⟩
  have n2_ : Aside0 (Kd.R k26 26 w42 w.heap.size (fun k_ => some k_ ≠ (.slice Ao37 tAw.length co37 : Value).ownBlock) vBw tAt) := ⟨h2_⟩
  have n3_ : Aside0 (w42.heap[gbAe]? = some (.cells #[.int .i64 a0_0, .int .i64 a0_1, .int .i64 a0_2, .int .i64 a0_3, .int .i64 a0_4, .slice A0_5 l0_5.length c0_5] 24 (0, 0))) := ⟨h3_⟩
  have n4_ : Aside0 (w42.heap[gbAd]? = some (.cells #[.int .i64 a1_0, .int .i64 a1_1, .int .i64 a1_2, .int .i64 a1_3, .int .i64 a1_4, .slice A1_5 l1_5.length c1_5] 29 (0, 0))) := ⟨h4_⟩
  have n5_ : Aside0 (w42.heap[gbAa]? = some (.cells #[.int .i64 tAg, .int .i64 tAm, .int .i64 tAn, .int .i64 tAp, .int .i64 tAq, .slice Ao33 tAj.length co33] 24 (0, 0))) := ⟨h5_⟩
  have n6_ : Aside0 (w42.heap[gbAb]? = some (.cells #[.int .i64 0, .int .i64 0, .int .i64 0, .int .i64 0, .int .i64 0, .slice none 0 0] 29 (0, 0))) := ⟨h6_⟩
  have n7_ : Aside0 (w.heap.size ≤ gbAb) := ⟨h7_⟩
  have n8_ : Aside0 (w.heap.size ≤ gbAb) := ⟨h8_⟩
  have n9_ : Aside0 (gbAe ≠ gbAb) := ⟨h9_⟩
  have n10_ : Aside0 (gbAb ≠ gbAe) := ⟨h10_⟩
  have n11_ : Aside0 (gbAd ≠ gbAb) := ⟨h11_⟩
  have n12_ : Aside0 (gbAb ≠ gbAd) := ⟨h12_⟩
  have n13_ : Aside0 (gbAa ≠ gbAb) := ⟨h13_⟩
  have n14_ : Aside0 (gbAb ≠ gbAa) := ⟨h14_⟩
  have n15_ : Aside0 (Below w.heap.size w w42) := ⟨h15_⟩
  clear HOAh
  clear HOAi
  clear BKAe
  clear BKAd
  clear BKAa
  clear HB
  clear h0_ h1_ h2_ h3_ h4_ h5_ h6_ h7_ h8_ h9_ h10_ h11_ h12_ h13_ h14_ h15_
  have HOAh := n0_
  have HOAi := n1_
  have HOAk := n2_
  have BKAe := n3_
  have BKAd := n4_
  have BKAa := n5_
  have BKAb := n6_
  have GWAb := n7_
  have GEAb := n8_
  have NBAe_Ab := n9_
  have NBAb_Ae := n10_
  have NBAd_Ab := n11_
  have NBAb_Ad := n12_
  have NBAa_Ab := n13_
  have NBAb_Aa := n14_
  have HB := n15_
  clear n0_ n1_ n2_ n3_ n4_ n5_ n6_ n7_ n8_ n9_ n10_ n11_ n12_ n13_ n14_ n15_
  have hHeld : w42.cell? ⟨gbAa, 0, none⟩ = some (.int .i64 tAg) ∧ w42.cell? ⟨gbAa, 1, none⟩ = some (.int .i64 tAm) ∧ w42.cell? ⟨gbAa, 2, none⟩ = some (.int .i64 tAn) ∧ w42.cell? ⟨gbAa, 3, none⟩ = some (.int .i64 tAp) ∧ w42.cell? ⟨gbAa, 4, none⟩ = some (.int .i64 tAq) ∧ w42.cell? ⟨gbAa, 5, none⟩ = some (.slice Ao33 tAj.length co33) := hS_
  obtain ⟨Ao48, co48, eo48⟩ := Kd.R_slice HOAk.out
  (first | subst eo48 | (injection eo48 with f1_ f2_ f3_; have f4_ := f1_.symm; have f5_ := f3_.symm; clear f1_ f2_ f3_; subst f4_; subst f5_))
  refine norm_ (a' := ?_) ?_ ?_
  rotate_left
  ·
   simp only [putAll, Act.put, List.setIfInBounds_toArray, List.set_cons_zero, List.set_cons_succ]
   rfl
  refine one_ (i := 9) (N := none) #[true, true, true, true, true, true, true, true, true, true, false] rfl rfl (one_of HT_.out (by kernel_rfl)) (by decide) (fun K hK => ?_)
  have hs43 : w42.cell? ⟨gbAb, 0, none⟩ = some (.int .i64 0) := (blk_cell BKAb.out 0).trans rfl
  have hfs43 := blk_frozen BKAb.out 0
  have hns43_0 := NBAe_Ab.out
  have hns43_1 := NBAd_Ab.out
  have hns43_2 := NBAa_Ab.out
  have hms43_0 := NBAb_Ae.out
  have hms43_1 := NBAb_Ad.out
  have hms43_2 := NBAb_Aa.out
  have hs44 : w42.cell? ⟨gbAb, 1, none⟩ = some (.int .i64 0) := (blk_cell BKAb.out 1).trans rfl
  have hfs44 := blk_frozen BKAb.out 1
  have hns44_0 := NBAe_Ab.out
  have hns44_1 := NBAd_Ab.out
  have hns44_2 := NBAa_Ab.out
  have hms44_0 := NBAb_Ae.out
  have hms44_1 := NBAb_Ad.out
  have hms44_2 := NBAb_Aa.out
  have hs45 : w42.cell? ⟨gbAb, 2, none⟩ = some (.int .i64 0) := (blk_cell BKAb.out 2).trans rfl
  have hfs45 := blk_frozen BKAb.out 2
  have hns45_0 := NBAe_Ab.out
  have hns45_1 := NBAd_Ab.out
  have hns45_2 := NBAa_Ab.out
  have hms45_0 := NBAb_Ae.out
  have hms45_1 := NBAb_Ad.out
  have hms45_2 := NBAb_Aa.out
  have hs46 : w42.cell? ⟨gbAb, 3, none⟩ = some (.int .i64 0) := (blk_cell BKAb.out 3).trans rfl
  have hfs46 := blk_frozen BKAb.out 3
  have hns46_0 := NBAe_Ab.out
  have hns46_1 := NBAd_Ab.out
  have hns46_2 := NBAa_Ab.out
  have hms46_0 := NBAb_Ae.out
  have hms46_1 := NBAb_Ad.out
  have hms46_2 := NBAb_Aa.out
  have hs47 : w42.cell? ⟨gbAb, 4, none⟩ = some (.int .i64 0) := (blk_cell BKAb.out 4).trans rfl
  have hfs47 := blk_frozen BKAb.out 4
  have hns47_0 := NBAe_Ab.out
  have hns47_1 := NBAd_Ab.out
  have hns47_2 := NBAa_Ab.out
  have hms47_0 := NBAb_Ae.out
  have hms47_1 := NBAb_Ad.out
  have hms47_2 := NBAb_Aa.out
  have hs49 : w42.cell? ⟨gbAb, 5, none⟩ = some (.slice none 0 0) := (blk_cell BKAb.out 5).trans rfl
  have hfs49 := blk_frozen BKAb.out 5
  have hns49_0 := NBAe_Ab.out
  have hns49_1 := NBAd_Ab.out
  have hns49_2 := NBAa_Ab.out
  have hms49_0 := NBAb_Ae.out
  have hms49_1 := NBAb_Ad.out
  have hms49_2 := NBAb_Aa.out
  refine skip_ (w1 := ?_) (by rfl) rfl ?_ ?_
  rotate_left
  ·
   go_simp
   rfl
  refine hK.out _ _ ⟨((cell_far (p := ⟨gbAb, _, none⟩) NBAa_Ab.out _).trans (((cell_far (p := ⟨gbAb, _, none⟩) NBAa_Ab.out _).trans (((cell_far (p := ⟨gbAb, _, none⟩) NBAa_Ab.out _).trans (((cell_far (p := ⟨gbAb, _, none⟩) NBAa_Ab.out _).trans (((cell_far (p := ⟨gbAb, _, none⟩) NBAa_Ab.out _).trans (((cell_far (p := ⟨gbAb, _, none⟩) NBAa_Ab.out _).trans (hHeld.1)))))))))))), ((cell_far (p := ⟨gbAb, _, none⟩) NBAa_Ab.out _).trans (((cell_far (p := ⟨gbAb, _, none⟩) NBAa_Ab.out _).trans (((cell_far (p := ⟨gbAb, _, none⟩) NBAa_Ab.out _).trans (((cell_far (p := ⟨gbAb, _, none⟩) NBAa_Ab.out _).trans (((cell_far (p := ⟨gbAb, _, none⟩) NBAa_Ab.out _).trans (((cell_far (p := ⟨gbAb, _, none⟩) NBAa_Ab.out _).trans (hHeld.2.1)))))))))))), ((cell_far (p := ⟨gbAb, _, none⟩) NBAa_Ab.out _).trans (((cell_far (p := ⟨gbAb, _, none⟩) NBAa_Ab.out _).trans (((cell_far (p := ⟨gbAb, _, none⟩) NBAa_Ab.out _).trans (((cell_far (p := ⟨gbAb, _, none⟩) NBAa_Ab.out _).trans (((cell_far (p := ⟨gbAb, _, none⟩) NBAa_Ab.out _).trans (((cell_far (p := ⟨gbAb, _, none⟩) NBAa_Ab.out _).trans (hHeld.2.2.1)))))))))))), ((cell_far (p := ⟨gbAb, _, none⟩) NBAa_Ab.out _).trans (((cell_far (p := ⟨gbAb, _, none⟩) NBAa_Ab.out _).trans (((cell_far (p := ⟨gbAb, _, none⟩) NBAa_Ab.out _).trans (((cell_far (p := ⟨gbAb, _, none⟩) NBAa_Ab.out _).trans (((cell_far (p := ⟨gbAb, _, none⟩) NBAa_Ab.out _).trans (((cell_far (p := ⟨gbAb, _, none⟩) NBAa_Ab.out _).trans (hHeld.2.2.2.1)))))))))))), ((cell_far (p := ⟨gbAb, _, none⟩) NBAa_Ab.out _).trans (((cell_far (p := ⟨gbAb, _, none⟩) NBAa_Ab.out _).trans (((cell_far (p := ⟨gbAb, _, none⟩) NBAa_Ab.out _).trans (((cell_far (p := ⟨gbAb, _, none⟩) NBAa_Ab.out _).trans (((cell_far (p := ⟨gbAb, _, none⟩) NBAa_Ab.out _).trans (((cell_far (p := ⟨gbAb, _, none⟩) NBAa_Ab.out _).trans (hHeld.2.2.2.2.1)))))))))))), ((cell_far (p := ⟨gbAb, _, none⟩) NBAa_Ab.out _).trans (((cell_far (p := ⟨gbAb, _, none⟩) NBAa_Ab.out _).trans (((cell_far (p := ⟨gbAb, _, none⟩) NBAa_Ab.out _).trans (((cell_far (p := ⟨gbAb, _, none⟩) NBAa_Ab.out _).trans (((cell_far (p := ⟨gbAb, _, none⟩) NBAa_Ab.out _).trans (((cell_far (p := ⟨gbAb, _, none⟩) NBAa_Ab.out _).trans (hHeld.2.2.2.2.2))))))))))))⟩ (fun hHeld => ?_)
  clear hK K
  refine pq_ 10 16 HT_ ?_
  refine done_ (done_of HT_.out (by kernel_rfl)) ?_
  try go_wp2
  (try (rw [drewN_self w42]; generalize hq_ : World.drewN w42 _ = w42; have n0_ := Aside0.mk (Kd.R_at hq_ HOAh.out); have n1_ := Aside0.mk (Kd.R_at hq_ HOAi.out); have n2_ := Aside0.mk (Kd.R_at hq_ HOAk.out); have n3_ := Aside0.mk (blk_at hq_ BKAe.out); have n4_ := Aside0.mk (blk_at hq_ BKAd.out); have n5_ := Aside0.mk (blk_at hq_ BKAa.out); have n6_ := Aside0.mk (blk_at hq_ BKAb.out); have n7_ := Aside0.mk (below_at hq_ HB.out); clear hq_ HOAh HOAi HOAk BKAe BKAd BKAa BKAb HB; have HOAh := n0_; have HOAi := n1_; have HOAk := n2_; have BKAe := n3_; have BKAd := n4_; have BKAa := n5_; have BKAb := n6_; have HB := n7_; clear n0_ n1_ n2_ n3_ n4_ n5_ n6_ n7_))
  have n0_ : Aside0 (Kd.R (Kd.int .i64) 3 ((((((w42.setCell ⟨gbAb, 0, none⟩ (.int .i64 tAv)).setCell ⟨gbAb, 1, none⟩ (.int .i64 tBa)).setCell ⟨gbAb, 2, none⟩ (.int .i64 tBd)).setCell ⟨gbAb, 3, none⟩ (.int .i64 tBf)).setCell ⟨gbAb, 4, none⟩ (.int .i64 tBh)).setCell ⟨gbAb, 5, none⟩ (.slice Ao48 tAt.length co48)) w.heap.size (fun _ => True) (.slice Ao33 tAj.length co33) tAj) := ⟨by (with_reducible repeat (first | apply Kd.R_alloc | apply Kd.R_drewN | apply Kd.R_drew)); exact Kd.R_mono (Kd.R_far (p := ⟨gbAb, 5, none⟩) (Kd.R_far (p := ⟨gbAb, 4, none⟩) (Kd.R_far (p := ⟨gbAb, 3, none⟩) (Kd.R_far (p := ⟨gbAb, 2, none⟩) (Kd.R_far (p := ⟨gbAb, 1, none⟩) (Kd.R_far (p := ⟨gbAb, 0, none⟩) (Kd.R_types HOAh.out BKAb.out (by decide)) (fun _ hk => hk.2) (.int .i64 tAv)) (fun _ hk => hk.2) (.int .i64 tBa)) (fun _ hk => hk.2) (.int .i64 tBd)) (fun _ hk => hk.2) (.int .i64 tBf)) (fun _ hk => hk.2) (.int .i64 tBh)) (fun _ hk => hk.2) (.slice Ao48 tAt.length co48)) (fun _ hk => trivial)⟩
  have n1_ : Aside0 (Kd.R k26 26 ((((((w42.setCell ⟨gbAb, 0, none⟩ (.int .i64 tAv)).setCell ⟨gbAb, 1, none⟩ (.int .i64 tBa)).setCell ⟨gbAb, 2, none⟩ (.int .i64 tBd)).setCell ⟨gbAb, 3, none⟩ (.int .i64 tBf)).setCell ⟨gbAb, 4, none⟩ (.int .i64 tBh)).setCell ⟨gbAb, 5, none⟩ (.slice Ao48 tAt.length co48)) w.heap.size (fun k_ => some k_ ≠ (.slice Ao48 tAt.length co48 : Value).ownBlock) (.slice Ao37 tAw.length co37) tAw) := ⟨by (with_reducible repeat (first | apply Kd.R_alloc | apply Kd.R_drewN | apply Kd.R_drew)); exact Kd.R_mono (Kd.R_far (p := ⟨gbAb, 5, none⟩) (Kd.R_far (p := ⟨gbAb, 4, none⟩) (Kd.R_far (p := ⟨gbAb, 3, none⟩) (Kd.R_far (p := ⟨gbAb, 2, none⟩) (Kd.R_far (p := ⟨gbAb, 1, none⟩) (Kd.R_far (p := ⟨gbAb, 0, none⟩) (Kd.R_types HOAi.out BKAb.out (by decide)) (fun _ hk => hk.2) (.int .i64 tAv)) (fun _ hk => hk.2) (.int .i64 tBa)) (fun _ hk => hk.2) (.int .i64 tBd)) (fun _ hk => hk.2) (.int .i64 tBf)) (fun _ hk => hk.2) (.int .i64 tBh)) (fun _ hk => hk.2) (.slice Ao48 tAt.length co48)) (fun _ hk => hk.1)⟩
  have n2_ : Aside0 (Kd.R k26 26 ((((((w42.setCell ⟨gbAb, 0, none⟩ (.int .i64 tAv)).setCell ⟨gbAb, 1, none⟩ (.int .i64 tBa)).setCell ⟨gbAb, 2, none⟩ (.int .i64 tBd)).setCell ⟨gbAb, 3, none⟩ (.int .i64 tBf)).setCell ⟨gbAb, 4, none⟩ (.int .i64 tBh)).setCell ⟨gbAb, 5, none⟩ (.slice Ao48 tAt.length co48)) w.heap.size (fun k_ => some k_ ≠ (.slice Ao37 tAw.length co37 : Value).ownBlock) (.slice Ao48 tAt.length co48) tAt) := ⟨by (with_reducible repeat (first | apply Kd.R_alloc | apply Kd.R_drewN | apply Kd.R_drew)); exact Kd.R_mono (Kd.R_far (p := ⟨gbAb, 5, none⟩) (Kd.R_far (p := ⟨gbAb, 4, none⟩) (Kd.R_far (p := ⟨gbAb, 3, none⟩) (Kd.R_far (p := ⟨gbAb, 2, none⟩) (Kd.R_far (p := ⟨gbAb, 1, none⟩) (Kd.R_far (p := ⟨gbAb, 0, none⟩) (Kd.R_types HOAk.out BKAb.out (by decide)) (fun _ hk => hk.2) (.int .i64 tAv)) (fun _ hk => hk.2) (.int .i64 tBa)) (fun _ hk => hk.2) (.int .i64 tBd)) (fun _ hk => hk.2) (.int .i64 tBf)) (fun _ hk => hk.2) (.int .i64 tBh)) (fun _ hk => hk.2) (.slice Ao48 tAt.length co48)) (fun _ hk => hk.1)⟩
  have n3_ : Aside0 (((((((w42.setCell ⟨gbAb, 0, none⟩ (.int .i64 tAv)).setCell ⟨gbAb, 1, none⟩ (.int .i64 tBa)).setCell ⟨gbAb, 2, none⟩ (.int .i64 tBd)).setCell ⟨gbAb, 3, none⟩ (.int .i64 tBf)).setCell ⟨gbAb, 4, none⟩ (.int .i64 tBh)).setCell ⟨gbAb, 5, none⟩ (.slice Ao48 tAt.length co48)).heap[gbAe]? = some (.cells #[.int .i64 a0_0, .int .i64 a0_1, .int .i64 a0_2, .int .i64 a0_3, .int .i64 a0_4, .slice A0_5 l0_5.length c0_5] 24 (0, 0))) := ⟨by (with_reducible repeat (first | refine blk_drewN ?_ _ | refine blk_drew ?_ | refine blk_alloc ?_ _)); refine blk_far ?_ NBAe_Ab.out _; refine blk_far ?_ NBAe_Ab.out _; refine blk_far ?_ NBAe_Ab.out _; refine blk_far ?_ NBAe_Ab.out _; refine blk_far ?_ NBAe_Ab.out _; refine blk_far ?_ NBAe_Ab.out _; (with_reducible repeat (first | refine blk_drewN ?_ _ | refine blk_drew ?_ | refine blk_alloc ?_ _)); exact BKAe.out⟩
  have n4_ : Aside0 (((((((w42.setCell ⟨gbAb, 0, none⟩ (.int .i64 tAv)).setCell ⟨gbAb, 1, none⟩ (.int .i64 tBa)).setCell ⟨gbAb, 2, none⟩ (.int .i64 tBd)).setCell ⟨gbAb, 3, none⟩ (.int .i64 tBf)).setCell ⟨gbAb, 4, none⟩ (.int .i64 tBh)).setCell ⟨gbAb, 5, none⟩ (.slice Ao48 tAt.length co48)).heap[gbAd]? = some (.cells #[.int .i64 a1_0, .int .i64 a1_1, .int .i64 a1_2, .int .i64 a1_3, .int .i64 a1_4, .slice A1_5 l1_5.length c1_5] 29 (0, 0))) := ⟨by (with_reducible repeat (first | refine blk_drewN ?_ _ | refine blk_drew ?_ | refine blk_alloc ?_ _)); refine blk_far ?_ NBAd_Ab.out _; refine blk_far ?_ NBAd_Ab.out _; refine blk_far ?_ NBAd_Ab.out _; refine blk_far ?_ NBAd_Ab.out _; refine blk_far ?_ NBAd_Ab.out _; refine blk_far ?_ NBAd_Ab.out _; (with_reducible repeat (first | refine blk_drewN ?_ _ | refine blk_drew ?_ | refine blk_alloc ?_ _)); exact BKAd.out⟩
  have n5_ : Aside0 (((((((w42.setCell ⟨gbAb, 0, none⟩ (.int .i64 tAv)).setCell ⟨gbAb, 1, none⟩ (.int .i64 tBa)).setCell ⟨gbAb, 2, none⟩ (.int .i64 tBd)).setCell ⟨gbAb, 3, none⟩ (.int .i64 tBf)).setCell ⟨gbAb, 4, none⟩ (.int .i64 tBh)).setCell ⟨gbAb, 5, none⟩ (.slice Ao48 tAt.length co48)).heap[gbAa]? = some (.cells #[.int .i64 tAg, .int .i64 tAm, .int .i64 tAn, .int .i64 tAp, .int .i64 tAq, .slice Ao33 tAj.length co33] 24 (0, 0))) := ⟨by (with_reducible repeat (first | refine blk_drewN ?_ _ | refine blk_drew ?_ | refine blk_alloc ?_ _)); refine blk_far ?_ NBAa_Ab.out _; refine blk_far ?_ NBAa_Ab.out _; refine blk_far ?_ NBAa_Ab.out _; refine blk_far ?_ NBAa_Ab.out _; refine blk_far ?_ NBAa_Ab.out _; refine blk_far ?_ NBAa_Ab.out _; (with_reducible repeat (first | refine blk_drewN ?_ _ | refine blk_drew ?_ | refine blk_alloc ?_ _)); exact BKAa.out⟩
  have n6_ : Aside0 (((((((w42.setCell ⟨gbAb, 0, none⟩ (.int .i64 tAv)).setCell ⟨gbAb, 1, none⟩ (.int .i64 tBa)).setCell ⟨gbAb, 2, none⟩ (.int .i64 tBd)).setCell ⟨gbAb, 3, none⟩ (.int .i64 tBf)).setCell ⟨gbAb, 4, none⟩ (.int .i64 tBh)).setCell ⟨gbAb, 5, none⟩ (.slice Ao48 tAt.length co48)).heap[gbAb]? = some (.cells #[.int .i64 tAv, .int .i64 tBa, .int .i64 tBd, .int .i64 tBf, .int .i64 tBh, .slice Ao48 tAt.length co48] 29 (0, 0))) := ⟨by (with_reducible repeat (first | refine blk_drewN ?_ _ | refine blk_drew ?_ | refine blk_alloc ?_ _)); refine blk_put (cs := #[.int .i64 tAv, .int .i64 tBa, .int .i64 tBd, .int .i64 tBf, .int .i64 tBh, .slice none 0 0]) ?_ 5 _ rfl; refine blk_put (cs := #[.int .i64 tAv, .int .i64 tBa, .int .i64 tBd, .int .i64 tBf, .int .i64 0, .slice none 0 0]) ?_ 4 _ rfl; refine blk_put (cs := #[.int .i64 tAv, .int .i64 tBa, .int .i64 tBd, .int .i64 0, .int .i64 0, .slice none 0 0]) ?_ 3 _ rfl; refine blk_put (cs := #[.int .i64 tAv, .int .i64 tBa, .int .i64 0, .int .i64 0, .int .i64 0, .slice none 0 0]) ?_ 2 _ rfl; refine blk_put (cs := #[.int .i64 tAv, .int .i64 0, .int .i64 0, .int .i64 0, .int .i64 0, .slice none 0 0]) ?_ 1 _ rfl; refine blk_put (cs := #[.int .i64 0, .int .i64 0, .int .i64 0, .int .i64 0, .int .i64 0, .slice none 0 0]) ?_ 0 _ rfl; (with_reducible repeat (first | refine blk_drewN ?_ _ | refine blk_drew ?_ | refine blk_alloc ?_ _)); exact BKAb.out⟩
  have n7_ : Aside0 (Below w.heap.size w ((((((w42.setCell ⟨gbAb, 0, none⟩ (.int .i64 tAv)).setCell ⟨gbAb, 1, none⟩ (.int .i64 tBa)).setCell ⟨gbAb, 2, none⟩ (.int .i64 tBd)).setCell ⟨gbAb, 3, none⟩ (.int .i64 tBf)).setCell ⟨gbAb, 4, none⟩ (.int .i64 tBh)).setCell ⟨gbAb, 5, none⟩ (.slice Ao48 tAt.length co48))) := ⟨by repeat (first | (with_reducible first | exact HB.out | apply below_alloc | apply pw_below_drewN | apply below_drew1 | refine below_set ?_ GEAe.out | refine below_set ?_ GEAd.out | refine below_set ?_ GEAa.out | refine below_set ?_ GEAb.out) | exact HB.out)⟩
  (try clear HOAh)
  (try clear HOAi)
  (try clear HOAk)
  (try clear BKAe)
  (try clear BKAd)
  (try clear BKAa)
  (try clear BKAb)
  (try clear HB)
  generalize ((((((w42.setCell ⟨gbAb, 0, none⟩ (.int .i64 tAv)).setCell ⟨gbAb, 1, none⟩ (.int .i64 tBa)).setCell ⟨gbAb, 2, none⟩ (.int .i64 tBd)).setCell ⟨gbAb, 3, none⟩ (.int .i64 tBf)).setCell ⟨gbAb, 4, none⟩ (.int .i64 tBh)).setCell ⟨gbAb, 5, none⟩ (.slice Ao48 tAt.length co48)) = w50 at n0_ n1_ n2_ n3_ n4_ n5_ n6_ n7_ ⊢
  have HOAh := n0_
  have HOAi := n1_
  have HOAk := n2_
  have BKAe := n3_
  have BKAd := n4_
  have BKAa := n5_
  have BKAb := n6_
  have HB := n7_
  clear n0_ n1_ n2_ n3_ n4_ n5_ n6_ n7_
  replace HOAh := Aside0.mk (Kd.R_drew HOAh.out)
  replace HOAi := Aside0.mk (Kd.R_drew HOAi.out)
  replace HOAk := Aside0.mk (Kd.R_drew HOAk.out)
  replace BKAe := Aside0.mk (blk_drew BKAe.out)
  replace BKAd := Aside0.mk (blk_drew BKAd.out)
  replace BKAa := Aside0.mk (blk_drew BKAa.out)
  replace BKAb := Aside0.mk (blk_drew BKAb.out)
  replace HB := Aside0.mk (below_drew1 HB.out)
  refine start_ (n := 13) (S := fun w' => w'.cell? ⟨gbAa, 0, none⟩ = some (.int .i64 tAg) ∧ w'.cell? ⟨gbAa, 1, none⟩ = some (.int .i64 tAm) ∧ w'.cell? ⟨gbAa, 2, none⟩ = some (.int .i64 tAn) ∧ w'.cell? ⟨gbAa, 3, none⟩ = some (.int .i64 tAp) ∧ w'.cell? ⟨gbAa, 4, none⟩ = some (.int .i64 tAq) ∧ w'.cell? ⟨gbAa, 5, none⟩ = some (.slice Ao33 tAj.length co33)) (ds := []) #[false, false, false, false, false, false, false, false, false, false, false, false, false] (by kernel_rfl) rfl rfl ⟨(blk_cell BKAa.out 0).trans rfl, (blk_cell BKAa.out 1).trans rfl, (blk_cell BKAa.out 2).trans rfl, (blk_cell BKAa.out 3).trans rfl, (blk_cell BKAa.out 4).trans rfl, (blk_cell BKAa.out 5).trans rfl⟩ (fun hHeld => ?_); refine with_tabW plaitinglaw5_FrameTurn.tab7 plaitinglaw5_FrameTurn.bits7 (fun HT_ HW_ => ?_)
  generalize w50.drew = w51 at HOAh HOAi HOAk BKAe BKAd BKAa BKAb HB hHeld ⊢
  refine pq_ 1 51 HT_ ?_
  refine pq_ 2 52 HT_ ?_
  refine pq_ 4 54 HT_ ?_
  refine tq_ 0 50 HT_ HW_ hHeld ?_
  refine join_ (σ := Value × Nat) 2 #[true, true, true, true, true, true, true, true, true, true, true, false, false] (fun s_ => [(53, .string tBn), (55, .string tBi), (56, .tuple #[.agg #[.int .i64 tAs, .int .i64 tAz, .int .i64 tBb, .int .i64 tBe, .int .i64 tBg, s_.1], .int .i64 tBq]), (17, .pointer (some ⟨s_.2, 0, none⟩)), (49, .tuple #[.agg #[.int .i64 tAs, .int .i64 tAz, .int .i64 tBb, .int .i64 tBe, .int .i64 tBg, s_.1], .int .i64 tBq]), (57, .agg #[.int .i64 tAs, .int .i64 tAz, .int .i64 tBb, .int .i64 tBe, .int .i64 tBg, s_.1]), (58, .int .i64 tBq)]) (fun s_ w' => (w'.cell? ⟨gbAa, 0, none⟩ = some (.int .i64 tAg) ∧ w'.cell? ⟨gbAa, 1, none⟩ = some (.int .i64 tAm) ∧ w'.cell? ⟨gbAa, 2, none⟩ = some (.int .i64 tAn) ∧ w'.cell? ⟨gbAa, 3, none⟩ = some (.int .i64 tAp) ∧ w'.cell? ⟨gbAa, 4, none⟩ = some (.int .i64 tAq) ∧ w'.cell? ⟨gbAa, 5, none⟩ = some (.slice Ao33 tAj.length co33)) ∧ (Kd.R (Kd.int .i64) 3 w' w.heap.size (fun _ => True) (.slice Ao33 tAj.length co33) tAj) ∧ (Kd.R k26 26 w' w.heap.size (fun k_ => some k_ ≠ (.slice Ao48 tAt.length co48 : Value).ownBlock ∧ some k_ ≠ (s_.1 : Value).ownBlock) (.slice Ao37 tAw.length co37) tAw) ∧ (Kd.R k26 26 w' w.heap.size (fun k_ => some k_ ≠ (.slice Ao37 tAw.length co37 : Value).ownBlock ∧ some k_ ≠ (s_.1 : Value).ownBlock) (.slice Ao48 tAt.length co48) tAt) ∧ (Kd.R k26 26 w' w.heap.size (fun k_ => some k_ ≠ (.slice Ao37 tAw.length co37 : Value).ownBlock ∧ some k_ ≠ (.slice Ao48 tAt.length co48 : Value).ownBlock) s_.1 tAx) ∧ (w'.heap[gbAe]? = some (.cells #[.int .i64 a0_0, .int .i64 a0_1, .int .i64 a0_2, .int .i64 a0_3, .int .i64 a0_4, .slice A0_5 l0_5.length c0_5] 24 (0, 0))) ∧ (w'.heap[gbAd]? = some (.cells #[.int .i64 a1_0, .int .i64 a1_1, .int .i64 a1_2, .int .i64 a1_3, .int .i64 a1_4, .slice A1_5 l1_5.length c1_5] 29 (0, 0))) ∧ (w'.heap[gbAa]? = some (.cells #[.int .i64 tAg, .int .i64 tAm, .int .i64 tAn, .int .i64 tAp, .int .i64 tAq, .slice Ao33 tAj.length co33] 24 (0, 0))) ∧ (w'.heap[gbAb]? = some (.cells #[.int .i64 tAv, .int .i64 tBa, .int .i64 tBd, .int .i64 tBf, .int .i64 tBh, .slice Ao48 tAt.length co48] 29 (0, 0))) ∧ (w'.heap[s_.2]? = some (.cells #[.int .i64 0, .int .i64 0, .int .i64 0, .int .i64 0, .int .i64 0, .slice none 0 0] 29 (0, 0))) ∧ (w.heap.size ≤ s_.2) ∧ (w.heap.size ≤ s_.2) ∧ (gbAe ≠ s_.2) ∧ (s_.2 ≠ gbAe) ∧ (gbAd ≠ s_.2) ∧ (s_.2 ≠ gbAd) ∧ (gbAa ≠ s_.2) ∧ (s_.2 ≠ gbAa) ∧ (gbAb ≠ s_.2) ∧ (s_.2 ≠ gbAb) ∧ (Below w.heap.size w w')) ?_ ?_
  rotate_left
  ·
   intro hCont
   refine two_ (i := 3) (j := 10) (Ni := some 53) (Nj := some 17) #[true, true, true, true, true, false, false, false, false, false, false, false, false] #[true, true, true, false, true, false, false, false, false, false, true, false, false] rfl rfl rfl rfl (two_of HT_.out (by kernel_rfl)) (by decide) (by decide) (fun K hK => ?_) (fun K hK => ?_)
   ·
    skip
    refine gs_ Try.func32 #[.string tAr, .int .i64 tAy] ?_
    with_reducible refine (plaitingref1_Turn.calls k tAr tAy tBn _ A15.out).mono ?_
    rintro e w' ⟨rfl, ⟨nd, rfl⟩⟩
    refine ⟨_, rfl, ?_⟩
    refine hK.out _ _ ⟨(blk_cell BKAa.out 0).trans rfl, (blk_cell BKAa.out 1).trans rfl, (blk_cell BKAa.out 2).trans rfl, (blk_cell BKAa.out 3).trans rfl, (blk_cell BKAa.out 4).trans rfl, (blk_cell BKAa.out 5).trans rfl⟩ (fun hHeld => ?_)
    clear hK K
    refine nq_ 53 ?_
    refine two_ (i := 5) (j := 10) (Ni := some 55) (Nj := some 17) #[true, true, true, true, true, true, false, false, false, false, false, false, false] #[true, true, true, true, true, false, false, false, false, false, true, false, false] rfl rfl rfl rfl (two_of HT_.out (by kernel_rfl)) (by decide) (by decide) (fun K hK => ?_) (fun K hK => ?_)
    ·
     skip
     refine gs_ Try.func32 #[.string tBn, .int .i64 tBc] ?_
     with_reducible refine (plaitingref1_Turn.calls k tBn tBc tBi _ A16.out).mono ?_
     rintro e w' ⟨rfl, ⟨nd, rfl⟩⟩
     refine ⟨_, rfl, ?_⟩
     refine hK.out _ _ ⟨(blk_cell BKAa.out 0).trans rfl, (blk_cell BKAa.out 1).trans rfl, (blk_cell BKAa.out 2).trans rfl, (blk_cell BKAa.out 3).trans rfl, (blk_cell BKAa.out 4).trans rfl, (blk_cell BKAa.out 5).trans rfl⟩ (fun hHeld => ?_)
     clear hK K
     refine nq_ 55 ?_
     refine two_ (i := 6) (j := 10) (Ni := some 56) (Nj := some 17) #[true, true, true, true, true, true, true, false, false, false, false, false, false] #[true, true, true, true, true, true, false, false, false, false, true, false, false] rfl rfl rfl rfl (two_of HT_.out (by kernel_rfl)) (by decide) (by decide) (fun K hK => ?_) (fun K hK => ?_)
     ·
      skip
      refine gs_ Try.func35 #[.agg #[.int .i64 tAg, .int .i64 tAm, .int .i64 tAn, .int .i64 tAp, .int .i64 tAq, .slice Ao33 tAj.length co33], .string tBi] ?_
      with_reducible refine (frame_Read.calls tAg tAm tAn tAp tAq _ _ tAj tBi tAs tAz tBb tBe tBg tAx tBq _ ?side1 ?side2 A17.out).mono ?_
      (case side1 => exact cC_ (Kd.R_reads' HOAh.out).2.2)
      (case side2 => exact (Kd.R_reads' HOAh.out).2.1)
      rintro e w52 ⟨vBs, rfl, ho0, hb⟩
      refine ⟨_, rfl, ?_⟩
      have HOAu := Aside0.mk (Kd.R_lower (Kd.R_new' (Kd.R_new' ho0 (Kd.R_lt (pR_ HOAi.out))) (Kd.R_lt (pR_ HOAk.out))) (below_size (pH_ HB.out)))
      replace HOAh := Aside0.mk (Kd.R_below (pR_ HOAh.out) hb)
      replace HOAi := Aside0.mk (Kd.R_elder' (pR_ HOAi.out) (Kd.R_base ho0) hb)
      replace HOAk := Aside0.mk (Kd.R_elder' (pR_ HOAk.out) (Kd.R_base ho0) hb)
      replace BKAe := Aside0.mk (blk_below (pB_ BKAe.out) hb)
      replace BKAd := Aside0.mk (blk_below (pB_ BKAd.out) hb)
      replace BKAa := Aside0.mk (blk_below (pB_ BKAa.out) hb)
      replace BKAb := Aside0.mk (blk_below (pB_ BKAb.out) hb)
      replace HB := Aside0.mk (below_step (pH_ HB.out) hb)
      (try clear hb)
      (try clear hb2)
      (try clear hk)
      (try clear hi)
      (try clear ho0)
      refine hK.out _ _ ⟨(blk_cell BKAa.out 0).trans rfl, (blk_cell BKAa.out 1).trans rfl, (blk_cell BKAa.out 2).trans rfl, (blk_cell BKAa.out 3).trans rfl, (blk_cell BKAa.out 4).trans rfl, (blk_cell BKAa.out 5).trans rfl⟩ (fun hHeld => ?_)
      clear hK K
      refine nq_ 56 ?_
      refine pq_ 7 49 HT_ ?_
      refine pq_ 8 57 HT_ ?_
      refine pq_ 9 58 HT_ ?_
      refine oq_ 10 17 HT_ (fun K hK => ?_)
      refine box_step ?hg (N := 17) ?hd (cs := #[.int .i64 0, .int .i64 0, .int .i64 0, .int .i64 0, .int .i64 0, .slice none 0 0]) (t := 29) ?hr ?_; (case hd => rfl); (case hg => rfl); (case hr => first | (go_simp; done) | (go_simp; rfl))
      intro gbAc hg w53 hbox hb
      have BKAc := Aside0.mk (hbox)
      have GWAc := Aside0.mk ((by rw [hg]; exact (below_size (pH_ HB.out)) : w.heap.size ≤ gbAc))
      have GEAc := Aside0.mk ((by rw [hg]; exact (below_size (pH_ HB.out)) : w.heap.size ≤ gbAc))
      have NBAe_Ac := Aside0.mk (ltB_ hg BKAe.out)
      have NBAc_Ae := Aside0.mk (ltB_ hg BKAe.out).symm
      have NBAd_Ac := Aside0.mk (ltB_ hg BKAd.out)
      have NBAc_Ad := Aside0.mk (ltB_ hg BKAd.out).symm
      have NBAa_Ac := Aside0.mk (ltB_ hg BKAa.out)
      have NBAc_Aa := Aside0.mk (ltB_ hg BKAa.out).symm
      have NBAb_Ac := Aside0.mk (ltB_ hg BKAb.out)
      have NBAc_Ab := Aside0.mk (ltB_ hg BKAb.out).symm
      replace HOAh := Aside0.mk (Kd.R_below (pR_ HOAh.out) hb)
      replace HOAi := Aside0.mk (Kd.R_below (pR_ HOAi.out) hb)
      replace HOAk := Aside0.mk (Kd.R_below (pR_ HOAk.out) hb)
      replace HOAu := Aside0.mk (Kd.R_below (pR_ HOAu.out) hb)
      replace BKAe := Aside0.mk (blk_below (pB_ BKAe.out) hb)
      replace BKAd := Aside0.mk (blk_below (pB_ BKAd.out) hb)
      replace BKAa := Aside0.mk (blk_below (pB_ BKAa.out) hb)
      replace BKAb := Aside0.mk (blk_below (pB_ BKAb.out) hb)
      replace HB := Aside0.mk (below_step (pH_ HB.out) hb)
      clear hb hbox hg
      refine hK.out _ _ ⟨(blk_cell BKAa.out 0).trans rfl, (blk_cell BKAa.out 1).trans rfl, (blk_cell BKAa.out 2).trans rfl, (blk_cell BKAa.out 3).trans rfl, (blk_cell BKAa.out 4).trans rfl, (blk_cell BKAa.out 5).trans rfl⟩ (fun hHeld => ?_)
      clear hK K
      refine nq_ 17 ?_
      exact norm_ (by simp only [putAll, Act.put, List.setIfInBounds_toArray, List.set_cons_zero, List.set_cons_succ]) (hCont (vBs, gbAc) _ ⟨hHeld, (pR_ HOAh.out), (pR_ HOAi.out), (pR_ HOAk.out), (by (with_reducible repeat (first | apply Kd.R_alloc | apply Kd.R_drewN | apply Kd.R_drew)); exact Kd.R_mono HOAu.out (fun _ hk => ⟨hk.1.2, hk.2⟩)), (pB_ BKAe.out), (pB_ BKAd.out), (pB_ BKAa.out), (pB_ BKAb.out), (pB_ BKAc.out), GWAc.out, GEAc.out, NBAe_Ac.out, NBAc_Ae.out, NBAd_Ac.out, NBAc_Ad.out, NBAa_Ac.out, NBAc_Aa.out, NBAb_Ac.out, NBAc_Ab.out, (pH_ HB.out)⟩)
     skip
     refine box_step ?hg (N := 17) ?hd (cs := #[.int .i64 0, .int .i64 0, .int .i64 0, .int .i64 0, .int .i64 0, .slice none 0 0]) (t := 29) ?hr ?_; (case hd => rfl); (case hg => rfl); (case hr => first | (go_simp; done) | (go_simp; rfl))
     intro gbAc hg w52 hbox hb
     have BKAc := Aside0.mk (hbox)
     have GWAc := Aside0.mk ((by rw [hg]; exact (below_size (pH_ HB.out)) : w.heap.size ≤ gbAc))
     have GEAc := Aside0.mk ((by rw [hg]; exact (below_size (pH_ HB.out)) : w.heap.size ≤ gbAc))
     have NBAe_Ac := Aside0.mk (ltB_ hg BKAe.out)
     have NBAc_Ae := Aside0.mk (ltB_ hg BKAe.out).symm
     have NBAd_Ac := Aside0.mk (ltB_ hg BKAd.out)
     have NBAc_Ad := Aside0.mk (ltB_ hg BKAd.out).symm
     have NBAa_Ac := Aside0.mk (ltB_ hg BKAa.out)
     have NBAc_Aa := Aside0.mk (ltB_ hg BKAa.out).symm
     have NBAb_Ac := Aside0.mk (ltB_ hg BKAb.out)
     have NBAc_Ab := Aside0.mk (ltB_ hg BKAb.out).symm
     replace HOAh := Aside0.mk (Kd.R_below (pR_ HOAh.out) hb)
     replace HOAi := Aside0.mk (Kd.R_below (pR_ HOAi.out) hb)
     replace HOAk := Aside0.mk (Kd.R_below (pR_ HOAk.out) hb)
     replace BKAe := Aside0.mk (blk_below (pB_ BKAe.out) hb)
     replace BKAd := Aside0.mk (blk_below (pB_ BKAd.out) hb)
     replace BKAa := Aside0.mk (blk_below (pB_ BKAa.out) hb)
     replace BKAb := Aside0.mk (blk_below (pB_ BKAb.out) hb)
     replace HB := Aside0.mk (below_step (pH_ HB.out) hb)
     clear hb hbox hg
     refine hK.out _ _ ⟨(blk_cell BKAa.out 0).trans rfl, (blk_cell BKAa.out 1).trans rfl, (blk_cell BKAa.out 2).trans rfl, (blk_cell BKAa.out 3).trans rfl, (blk_cell BKAa.out 4).trans rfl, (blk_cell BKAa.out 5).trans rfl⟩ (fun hHeld => ?_)
     clear hK K
     refine nq_ 17 ?_
     refine oq_ 6 56 HT_ (fun K hK => ?_)
     refine gs_ Try.func35 #[.agg #[.int .i64 tAg, .int .i64 tAm, .int .i64 tAn, .int .i64 tAp, .int .i64 tAq, .slice Ao33 tAj.length co33], .string tBi] ?_
     with_reducible refine (frame_Read.calls tAg tAm tAn tAp tAq _ _ tAj tBi tAs tAz tBb tBe tBg tAx tBq _ ?side1 ?side2 A17.out).mono ?_
     (case side1 => exact cC_ (Kd.R_reads' HOAh.out).2.2)
     (case side2 => exact (Kd.R_reads' HOAh.out).2.1)
     rintro e w53 ⟨vBs, rfl, ho0, hb⟩
     refine ⟨_, rfl, ?_⟩
     have HOAu := Aside0.mk (Kd.R_lower (Kd.R_new' (Kd.R_new' ho0 (Kd.R_lt (pR_ HOAi.out))) (Kd.R_lt (pR_ HOAk.out))) (below_size (pH_ HB.out)))
     replace HOAh := Aside0.mk (Kd.R_below (pR_ HOAh.out) hb)
     replace HOAi := Aside0.mk (Kd.R_elder' (pR_ HOAi.out) (Kd.R_base ho0) hb)
     replace HOAk := Aside0.mk (Kd.R_elder' (pR_ HOAk.out) (Kd.R_base ho0) hb)
     replace BKAe := Aside0.mk (blk_below (pB_ BKAe.out) hb)
     replace BKAd := Aside0.mk (blk_below (pB_ BKAd.out) hb)
     replace BKAa := Aside0.mk (blk_below (pB_ BKAa.out) hb)
     replace BKAb := Aside0.mk (blk_below (pB_ BKAb.out) hb)
     replace BKAc := Aside0.mk (blk_below (pB_ BKAc.out) hb)
     replace HB := Aside0.mk (below_step (pH_ HB.out) hb)
     (try clear hb)
     (try clear hb2)
     (try clear hk)
     (try clear hi)
     (try clear ho0)
     refine hK.out _ _ ⟨(blk_cell BKAa.out 0).trans rfl, (blk_cell BKAa.out 1).trans rfl, (blk_cell BKAa.out 2).trans rfl, (blk_cell BKAa.out 3).trans rfl, (blk_cell BKAa.out 4).trans rfl, (blk_cell BKAa.out 5).trans rfl⟩ (fun hHeld => ?_)
     clear hK K
     refine nq_ 56 ?_
     refine pq_ 7 49 HT_ ?_
     refine pq_ 8 57 HT_ ?_
     refine pq_ 9 58 HT_ ?_
     exact norm_ (by simp only [putAll, Act.put, List.setIfInBounds_toArray, List.set_cons_zero, List.set_cons_succ]) (hCont (vBs, gbAc) _ ⟨hHeld, (pR_ HOAh.out), (pR_ HOAi.out), (pR_ HOAk.out), (by (with_reducible repeat (first | apply Kd.R_alloc | apply Kd.R_drewN | apply Kd.R_drew)); exact Kd.R_mono HOAu.out (fun _ hk => ⟨hk.1.2, hk.2⟩)), (pB_ BKAe.out), (pB_ BKAd.out), (pB_ BKAa.out), (pB_ BKAb.out), (pB_ BKAc.out), GWAc.out, GEAc.out, NBAe_Ac.out, NBAc_Ae.out, NBAd_Ac.out, NBAc_Ad.out, NBAa_Ac.out, NBAc_Aa.out, NBAb_Ac.out, NBAc_Ab.out, (pH_ HB.out)⟩)
    skip
    refine box_step ?hg (N := 17) ?hd (cs := #[.int .i64 0, .int .i64 0, .int .i64 0, .int .i64 0, .int .i64 0, .slice none 0 0]) (t := 29) ?hr ?_; (case hd => rfl); (case hg => rfl); (case hr => first | (go_simp; done) | (go_simp; rfl))
    intro gbAc hg w52 hbox hb
    have BKAc := Aside0.mk (hbox)
    have GWAc := Aside0.mk ((by rw [hg]; exact (below_size (pH_ HB.out)) : w.heap.size ≤ gbAc))
    have GEAc := Aside0.mk ((by rw [hg]; exact (below_size (pH_ HB.out)) : w.heap.size ≤ gbAc))
    have NBAe_Ac := Aside0.mk (ltB_ hg BKAe.out)
    have NBAc_Ae := Aside0.mk (ltB_ hg BKAe.out).symm
    have NBAd_Ac := Aside0.mk (ltB_ hg BKAd.out)
    have NBAc_Ad := Aside0.mk (ltB_ hg BKAd.out).symm
    have NBAa_Ac := Aside0.mk (ltB_ hg BKAa.out)
    have NBAc_Aa := Aside0.mk (ltB_ hg BKAa.out).symm
    have NBAb_Ac := Aside0.mk (ltB_ hg BKAb.out)
    have NBAc_Ab := Aside0.mk (ltB_ hg BKAb.out).symm
    replace HOAh := Aside0.mk (Kd.R_below (pR_ HOAh.out) hb)
    replace HOAi := Aside0.mk (Kd.R_below (pR_ HOAi.out) hb)
    replace HOAk := Aside0.mk (Kd.R_below (pR_ HOAk.out) hb)
    replace BKAe := Aside0.mk (blk_below (pB_ BKAe.out) hb)
    replace BKAd := Aside0.mk (blk_below (pB_ BKAd.out) hb)
    replace BKAa := Aside0.mk (blk_below (pB_ BKAa.out) hb)
    replace BKAb := Aside0.mk (blk_below (pB_ BKAb.out) hb)
    replace HB := Aside0.mk (below_step (pH_ HB.out) hb)
    clear hb hbox hg
    refine hK.out _ _ ⟨(blk_cell BKAa.out 0).trans rfl, (blk_cell BKAa.out 1).trans rfl, (blk_cell BKAa.out 2).trans rfl, (blk_cell BKAa.out 3).trans rfl, (blk_cell BKAa.out 4).trans rfl, (blk_cell BKAa.out 5).trans rfl⟩ (fun hHeld => ?_)
    clear hK K
    refine nq_ 17 ?_
    refine oq_ 5 55 HT_ (fun K hK => ?_)
    refine gs_ Try.func32 #[.string tBn, .int .i64 tBc] ?_
    with_reducible refine (plaitingref1_Turn.calls k tBn tBc tBi _ A16.out).mono ?_
    rintro e w' ⟨rfl, ⟨nd, rfl⟩⟩
    refine ⟨_, rfl, ?_⟩
    refine hK.out _ _ ⟨(blk_cell BKAa.out 0).trans rfl, (blk_cell BKAa.out 1).trans rfl, (blk_cell BKAa.out 2).trans rfl, (blk_cell BKAa.out 3).trans rfl, (blk_cell BKAa.out 4).trans rfl, (blk_cell BKAa.out 5).trans rfl⟩ (fun hHeld => ?_)
    clear hK K
    refine nq_ 55 ?_
    refine oq_ 6 56 HT_ (fun K hK => ?_)
    refine gs_ Try.func35 #[.agg #[.int .i64 tAg, .int .i64 tAm, .int .i64 tAn, .int .i64 tAp, .int .i64 tAq, .slice Ao33 tAj.length co33], .string tBi] ?_
    with_reducible refine (frame_Read.calls tAg tAm tAn tAp tAq _ _ tAj tBi tAs tAz tBb tBe tBg tAx tBq _ ?side1 ?side2 A17.out).mono ?_
    (case side1 => exact cC_ (Kd.R_reads' HOAh.out).2.2)
    (case side2 => exact (Kd.R_reads' HOAh.out).2.1)
    rintro e w53 ⟨vBs, rfl, ho0, hb⟩
    refine ⟨_, rfl, ?_⟩
    have HOAu := Aside0.mk (Kd.R_lower (Kd.R_new' (Kd.R_new' ho0 (Kd.R_lt (pR_ HOAi.out))) (Kd.R_lt (pR_ HOAk.out))) (below_size (pH_ HB.out)))
    replace HOAh := Aside0.mk (Kd.R_below (pR_ HOAh.out) hb)
    replace HOAi := Aside0.mk (Kd.R_elder' (pR_ HOAi.out) (Kd.R_base ho0) hb)
    replace HOAk := Aside0.mk (Kd.R_elder' (pR_ HOAk.out) (Kd.R_base ho0) hb)
    replace BKAe := Aside0.mk (blk_below (pB_ BKAe.out) hb)
    replace BKAd := Aside0.mk (blk_below (pB_ BKAd.out) hb)
    replace BKAa := Aside0.mk (blk_below (pB_ BKAa.out) hb)
    replace BKAb := Aside0.mk (blk_below (pB_ BKAb.out) hb)
    replace BKAc := Aside0.mk (blk_below (pB_ BKAc.out) hb)
    replace HB := Aside0.mk (below_step (pH_ HB.out) hb)
    (try clear hb)
    (try clear hb2)
    (try clear hk)
    (try clear hi)
    (try clear ho0)
    refine hK.out _ _ ⟨(blk_cell BKAa.out 0).trans rfl, (blk_cell BKAa.out 1).trans rfl, (blk_cell BKAa.out 2).trans rfl, (blk_cell BKAa.out 3).trans rfl, (blk_cell BKAa.out 4).trans rfl, (blk_cell BKAa.out 5).trans rfl⟩ (fun hHeld => ?_)
    clear hK K
    refine nq_ 56 ?_
    refine pq_ 7 49 HT_ ?_
    refine pq_ 8 57 HT_ ?_
    refine pq_ 9 58 HT_ ?_
    exact norm_ (by simp only [putAll, Act.put, List.setIfInBounds_toArray, List.set_cons_zero, List.set_cons_succ]) (hCont (vBs, gbAc) _ ⟨hHeld, (pR_ HOAh.out), (pR_ HOAi.out), (pR_ HOAk.out), (by (with_reducible repeat (first | apply Kd.R_alloc | apply Kd.R_drewN | apply Kd.R_drew)); exact Kd.R_mono HOAu.out (fun _ hk => ⟨hk.1.2, hk.2⟩)), (pB_ BKAe.out), (pB_ BKAd.out), (pB_ BKAa.out), (pB_ BKAb.out), (pB_ BKAc.out), GWAc.out, GEAc.out, NBAe_Ac.out, NBAc_Ae.out, NBAd_Ac.out, NBAc_Ad.out, NBAa_Ac.out, NBAc_Aa.out, NBAb_Ac.out, NBAc_Ab.out, (pH_ HB.out)⟩)
   skip
   refine box_step ?hg (N := 17) ?hd (cs := #[.int .i64 0, .int .i64 0, .int .i64 0, .int .i64 0, .int .i64 0, .slice none 0 0]) (t := 29) ?hr ?_; (case hd => rfl); (case hg => rfl); (case hr => first | (go_simp; done) | (go_simp; rfl))
   intro gbAc hg w52 hbox hb
   have BKAc := Aside0.mk (hbox)
   have GWAc := Aside0.mk ((by rw [hg]; exact (below_size (pH_ HB.out)) : w.heap.size ≤ gbAc))
   have GEAc := Aside0.mk ((by rw [hg]; exact (below_size (pH_ HB.out)) : w.heap.size ≤ gbAc))
   have NBAe_Ac := Aside0.mk (ltB_ hg BKAe.out)
   have NBAc_Ae := Aside0.mk (ltB_ hg BKAe.out).symm
   have NBAd_Ac := Aside0.mk (ltB_ hg BKAd.out)
   have NBAc_Ad := Aside0.mk (ltB_ hg BKAd.out).symm
   have NBAa_Ac := Aside0.mk (ltB_ hg BKAa.out)
   have NBAc_Aa := Aside0.mk (ltB_ hg BKAa.out).symm
   have NBAb_Ac := Aside0.mk (ltB_ hg BKAb.out)
   have NBAc_Ab := Aside0.mk (ltB_ hg BKAb.out).symm
   replace HOAh := Aside0.mk (Kd.R_below (pR_ HOAh.out) hb)
   replace HOAi := Aside0.mk (Kd.R_below (pR_ HOAi.out) hb)
   replace HOAk := Aside0.mk (Kd.R_below (pR_ HOAk.out) hb)
   replace BKAe := Aside0.mk (blk_below (pB_ BKAe.out) hb)
   replace BKAd := Aside0.mk (blk_below (pB_ BKAd.out) hb)
   replace BKAa := Aside0.mk (blk_below (pB_ BKAa.out) hb)
   replace BKAb := Aside0.mk (blk_below (pB_ BKAb.out) hb)
   replace HB := Aside0.mk (below_step (pH_ HB.out) hb)
   clear hb hbox hg
   refine hK.out _ _ ⟨(blk_cell BKAa.out 0).trans rfl, (blk_cell BKAa.out 1).trans rfl, (blk_cell BKAa.out 2).trans rfl, (blk_cell BKAa.out 3).trans rfl, (blk_cell BKAa.out 4).trans rfl, (blk_cell BKAa.out 5).trans rfl⟩ (fun hHeld => ?_)
   clear hK K
   refine nq_ 17 ?_
   refine oq_ 3 53 HT_ (fun K hK => ?_)
   refine gs_ Try.func32 #[.string tAr, .int .i64 tAy] ?_
   with_reducible refine (plaitingref1_Turn.calls k tAr tAy tBn _ A15.out).mono ?_
   rintro e w' ⟨rfl, ⟨nd, rfl⟩⟩
   refine ⟨_, rfl, ?_⟩
   refine hK.out _ _ ⟨(blk_cell BKAa.out 0).trans rfl, (blk_cell BKAa.out 1).trans rfl, (blk_cell BKAa.out 2).trans rfl, (blk_cell BKAa.out 3).trans rfl, (blk_cell BKAa.out 4).trans rfl, (blk_cell BKAa.out 5).trans rfl⟩ (fun hHeld => ?_)
   clear hK K
   refine nq_ 53 ?_
   refine oq_ 5 55 HT_ (fun K hK => ?_)
   refine gs_ Try.func32 #[.string tBn, .int .i64 tBc] ?_
   with_reducible refine (plaitingref1_Turn.calls k tBn tBc tBi _ A16.out).mono ?_
   rintro e w' ⟨rfl, ⟨nd, rfl⟩⟩
   refine ⟨_, rfl, ?_⟩
   refine hK.out _ _ ⟨(blk_cell BKAa.out 0).trans rfl, (blk_cell BKAa.out 1).trans rfl, (blk_cell BKAa.out 2).trans rfl, (blk_cell BKAa.out 3).trans rfl, (blk_cell BKAa.out 4).trans rfl, (blk_cell BKAa.out 5).trans rfl⟩ (fun hHeld => ?_)
   clear hK K
   refine nq_ 55 ?_
   refine oq_ 6 56 HT_ (fun K hK => ?_)
   refine gs_ Try.func35 #[.agg #[.int .i64 tAg, .int .i64 tAm, .int .i64 tAn, .int .i64 tAp, .int .i64 tAq, .slice Ao33 tAj.length co33], .string tBi] ?_
   with_reducible refine (frame_Read.calls tAg tAm tAn tAp tAq _ _ tAj tBi tAs tAz tBb tBe tBg tAx tBq _ ?side1 ?side2 A17.out).mono ?_
   (case side1 => exact cC_ (Kd.R_reads' HOAh.out).2.2)
   (case side2 => exact (Kd.R_reads' HOAh.out).2.1)
   rintro e w53 ⟨vBs, rfl, ho0, hb⟩
   refine ⟨_, rfl, ?_⟩
   have HOAu := Aside0.mk (Kd.R_lower (Kd.R_new' (Kd.R_new' ho0 (Kd.R_lt (pR_ HOAi.out))) (Kd.R_lt (pR_ HOAk.out))) (below_size (pH_ HB.out)))
   replace HOAh := Aside0.mk (Kd.R_below (pR_ HOAh.out) hb)
   replace HOAi := Aside0.mk (Kd.R_elder' (pR_ HOAi.out) (Kd.R_base ho0) hb)
   replace HOAk := Aside0.mk (Kd.R_elder' (pR_ HOAk.out) (Kd.R_base ho0) hb)
   replace BKAe := Aside0.mk (blk_below (pB_ BKAe.out) hb)
   replace BKAd := Aside0.mk (blk_below (pB_ BKAd.out) hb)
   replace BKAa := Aside0.mk (blk_below (pB_ BKAa.out) hb)
   replace BKAb := Aside0.mk (blk_below (pB_ BKAb.out) hb)
   replace BKAc := Aside0.mk (blk_below (pB_ BKAc.out) hb)
   replace HB := Aside0.mk (below_step (pH_ HB.out) hb)
   (try clear hb)
   (try clear hb2)
   (try clear hk)
   (try clear hi)
   (try clear ho0)
   refine hK.out _ _ ⟨(blk_cell BKAa.out 0).trans rfl, (blk_cell BKAa.out 1).trans rfl, (blk_cell BKAa.out 2).trans rfl, (blk_cell BKAa.out 3).trans rfl, (blk_cell BKAa.out 4).trans rfl, (blk_cell BKAa.out 5).trans rfl⟩ (fun hHeld => ?_)
   clear hK K
   refine nq_ 56 ?_
   refine pq_ 7 49 HT_ ?_
   refine pq_ 8 57 HT_ ?_
   refine pq_ 9 58 HT_ ?_
   exact norm_ (by simp only [putAll, Act.put, List.setIfInBounds_toArray, List.set_cons_zero, List.set_cons_succ]) (hCont (vBs, gbAc) _ ⟨hHeld, (pR_ HOAh.out), (pR_ HOAi.out), (pR_ HOAk.out), (by (with_reducible repeat (first | apply Kd.R_alloc | apply Kd.R_drewN | apply Kd.R_drew)); exact Kd.R_mono HOAu.out (fun _ hk => ⟨hk.1.2, hk.2⟩)), (pB_ BKAe.out), (pB_ BKAd.out), (pB_ BKAa.out), (pB_ BKAb.out), (pB_ BKAc.out), GWAc.out, GEAc.out, NBAe_Ac.out, NBAc_Ae.out, NBAd_Ac.out, NBAc_Ad.out, NBAa_Ac.out, NBAc_Aa.out, NBAb_Ac.out, NBAc_Ab.out, (pH_ HB.out)⟩)
  rintro ⟨vBs, gbAc⟩ w54 ⟨hS_, h0_, h1_, h2_, h3_, h4_, h5_, h6_, h7_, h8_, h9_, h10_, h11_, h12_, h13_, h14_, h15_, h16_, h17_, h18_, h19_⟩
  have n0_ : Aside0 (Kd.R (Kd.int .i64) 3 w54 w.heap.size (fun _ => True) (.slice Ao33 tAj.length co33) tAj) := ⟨h0_⟩
  have n1_ : Aside0 (Kd.R k26 26 w54 w.heap.size (fun k_ => some k_ ≠ (.slice Ao48 tAt.length co48 : Value).ownBlock ∧ some k_ ≠ (vBs : Value).ownBlock) (.slice Ao37 tAw.length co37) tAw) := ⟨h1_⟩
  have n2_ : Aside0 (Kd.R k26 26 w54 w.heap.size (fun k_ => some k_ ≠ (.slice Ao37 tAw.length co37 : Value).ownBlock ∧ some k_ ≠ (vBs : Value).ownBlock) (.slice Ao48 tAt.length co48) tAt) := ⟨h2_⟩
  have n3_ : Aside0 (Kd.R k26 26 w54 w.heap.size (fun k_ => some k_ ≠ (.slice Ao37 tAw.length co37 : Value).ownBlock ∧ some k_ ≠ (.slice Ao48 tAt.length co48 : Value).ownBlock) vBs tAx) := ⟨h3_⟩
  have n4_ : Aside0 (w54.heap[gbAe]? = some (.cells #[.int .i64 a0_0, .int .i64 a0_1, .int .i64 a0_2, .int .i64 a0_3, .int .i64 a0_4, .slice A0_5 l0_5.length c0_5] 24 (0, 0))) := ⟨h4_⟩
  have n5_ : Aside0 (w54.heap[gbAd]? = some (.cells #[.int .i64 a1_0, .int .i64 a1_1, .int .i64 a1_2, .int .i64 a1_3, .int .i64 a1_4, .slice A1_5 l1_5.length c1_5] 29 (0, 0))) := ⟨h5_⟩
  have n6_ : Aside0 (w54.heap[gbAa]? = some (.cells #[.int .i64 tAg, .int .i64 tAm, .int .i64 tAn, .int .i64 tAp, .int .i64 tAq, .slice Ao33 tAj.length co33] 24 (0, 0))) := ⟨h6_⟩
  have n7_ : Aside0 (w54.heap[gbAb]? = some (.cells #[.int .i64 tAv, .int .i64 tBa, .int .i64 tBd, .int .i64 tBf, .int .i64 tBh, .slice Ao48 tAt.length co48] 29 (0, 0))) := ⟨h7_⟩
  have n8_ : Aside0 (w54.heap[gbAc]? = some (.cells #[.int .i64 0, .int .i64 0, .int .i64 0, .int .i64 0, .int .i64 0, .slice none 0 0] 29 (0, 0))) := ⟨h8_⟩
  have n9_ : Aside0 (w.heap.size ≤ gbAc) := ⟨h9_⟩
  have n10_ : Aside0 (w.heap.size ≤ gbAc) := ⟨h10_⟩
  have n11_ : Aside0 (gbAe ≠ gbAc) := ⟨h11_⟩
  have n12_ : Aside0 (gbAc ≠ gbAe) := ⟨h12_⟩
  have n13_ : Aside0 (gbAd ≠ gbAc) := ⟨h13_⟩
  have n14_ : Aside0 (gbAc ≠ gbAd) := ⟨h14_⟩
  have n15_ : Aside0 (gbAa ≠ gbAc) := ⟨h15_⟩
  have n16_ : Aside0 (gbAc ≠ gbAa) := ⟨h16_⟩
  have n17_ : Aside0 (gbAb ≠ gbAc) := ⟨h17_⟩
  have n18_ : Aside0 (gbAc ≠ gbAb) := ⟨h18_⟩
  have n19_ : Aside0 (Below w.heap.size w w54) := ⟨h19_⟩
  clear HOAh
  clear HOAi
  clear HOAk
  clear BKAe
  clear BKAd
  clear BKAa
  clear BKAb
  clear HB
  clear h0_ h1_ h2_ h3_ h4_ h5_ h6_ h7_ h8_ h9_ h10_ h11_ h12_ h13_ h14_ h15_ h16_ h17_ h18_ h19_
  have HOAh := n0_
  have HOAi := n1_
  have HOAk := n2_
  have HOAu := n3_
  have BKAe := n4_
  have BKAd := n5_
  have BKAa := n6_
  have BKAb := n7_
  have BKAc := n8_
  have GWAc := n9_
  have GEAc := n10_
  have NBAe_Ac := n11_
  have NBAc_Ae := n12_
  have NBAd_Ac := n13_
  have NBAc_Ad := n14_
  have NBAa_Ac := n15_
  have NBAc_Aa := n16_
  have NBAb_Ac := n17_
  have NBAc_Ab := n18_
  have HB := n19_
  clear n0_ n1_ n2_ n3_ n4_ n5_ n6_ n7_ n8_ n9_ n10_ n11_ n12_ n13_ n14_ n15_ n16_ n17_ n18_ n19_
  have hHeld : w54.cell? ⟨gbAa, 0, none⟩ = some (.int .i64 tAg) ∧ w54.cell? ⟨gbAa, 1, none⟩ = some (.int .i64 tAm) ∧ w54.cell? ⟨gbAa, 2, none⟩ = some (.int .i64 tAn) ∧ w54.cell? ⟨gbAa, 3, none⟩ = some (.int .i64 tAp) ∧ w54.cell? ⟨gbAa, 4, none⟩ = some (.int .i64 tAq) ∧ w54.cell? ⟨gbAa, 5, none⟩ = some (.slice Ao33 tAj.length co33) := hS_
  obtain ⟨Ao60, co60, eo60⟩ := Kd.R_slice HOAu.out
  (first | subst eo60 | (injection eo60 with f1_ f2_ f3_; have f4_ := f1_.symm; have f5_ := f3_.symm; clear f1_ f2_ f3_; subst f4_; subst f5_))
  refine norm_ (a' := ?_) ?_ ?_
  rotate_left
  ·
   simp only [putAll, Act.put, List.setIfInBounds_toArray, List.set_cons_zero, List.set_cons_succ]
   rfl
  refine one_ (i := 11) (N := none) #[true, true, true, true, true, true, true, true, true, true, true, true, false] rfl rfl (one_of HT_.out (by kernel_rfl)) (by decide) (fun K hK => ?_)
  have hs55 : w54.cell? ⟨gbAc, 0, none⟩ = some (.int .i64 0) := (blk_cell BKAc.out 0).trans rfl
  have hfs55 := blk_frozen BKAc.out 0
  have hns55_0 := NBAe_Ac.out
  have hns55_1 := NBAd_Ac.out
  have hns55_2 := NBAa_Ac.out
  have hns55_3 := NBAb_Ac.out
  have hms55_0 := NBAc_Ae.out
  have hms55_1 := NBAc_Ad.out
  have hms55_2 := NBAc_Aa.out
  have hms55_3 := NBAc_Ab.out
  have hs56 : w54.cell? ⟨gbAc, 1, none⟩ = some (.int .i64 0) := (blk_cell BKAc.out 1).trans rfl
  have hfs56 := blk_frozen BKAc.out 1
  have hns56_0 := NBAe_Ac.out
  have hns56_1 := NBAd_Ac.out
  have hns56_2 := NBAa_Ac.out
  have hns56_3 := NBAb_Ac.out
  have hms56_0 := NBAc_Ae.out
  have hms56_1 := NBAc_Ad.out
  have hms56_2 := NBAc_Aa.out
  have hms56_3 := NBAc_Ab.out
  have hs57 : w54.cell? ⟨gbAc, 2, none⟩ = some (.int .i64 0) := (blk_cell BKAc.out 2).trans rfl
  have hfs57 := blk_frozen BKAc.out 2
  have hns57_0 := NBAe_Ac.out
  have hns57_1 := NBAd_Ac.out
  have hns57_2 := NBAa_Ac.out
  have hns57_3 := NBAb_Ac.out
  have hms57_0 := NBAc_Ae.out
  have hms57_1 := NBAc_Ad.out
  have hms57_2 := NBAc_Aa.out
  have hms57_3 := NBAc_Ab.out
  have hs58 : w54.cell? ⟨gbAc, 3, none⟩ = some (.int .i64 0) := (blk_cell BKAc.out 3).trans rfl
  have hfs58 := blk_frozen BKAc.out 3
  have hns58_0 := NBAe_Ac.out
  have hns58_1 := NBAd_Ac.out
  have hns58_2 := NBAa_Ac.out
  have hns58_3 := NBAb_Ac.out
  have hms58_0 := NBAc_Ae.out
  have hms58_1 := NBAc_Ad.out
  have hms58_2 := NBAc_Aa.out
  have hms58_3 := NBAc_Ab.out
  have hs59 : w54.cell? ⟨gbAc, 4, none⟩ = some (.int .i64 0) := (blk_cell BKAc.out 4).trans rfl
  have hfs59 := blk_frozen BKAc.out 4
  have hns59_0 := NBAe_Ac.out
  have hns59_1 := NBAd_Ac.out
  have hns59_2 := NBAa_Ac.out
  have hns59_3 := NBAb_Ac.out
  have hms59_0 := NBAc_Ae.out
  have hms59_1 := NBAc_Ad.out
  have hms59_2 := NBAc_Aa.out
  have hms59_3 := NBAc_Ab.out
  have hs61 : w54.cell? ⟨gbAc, 5, none⟩ = some (.slice none 0 0) := (blk_cell BKAc.out 5).trans rfl
  have hfs61 := blk_frozen BKAc.out 5
  have hns61_0 := NBAe_Ac.out
  have hns61_1 := NBAd_Ac.out
  have hns61_2 := NBAa_Ac.out
  have hns61_3 := NBAb_Ac.out
  have hms61_0 := NBAc_Ae.out
  have hms61_1 := NBAc_Ad.out
  have hms61_2 := NBAc_Aa.out
  have hms61_3 := NBAc_Ab.out
  refine skip_ (w1 := ?_) (by rfl) rfl ?_ ?_
  rotate_left
  ·
   go_simp
   rfl
  refine hK.out _ _ ⟨((cell_far (p := ⟨gbAc, _, none⟩) NBAa_Ac.out _).trans (((cell_far (p := ⟨gbAc, _, none⟩) NBAa_Ac.out _).trans (((cell_far (p := ⟨gbAc, _, none⟩) NBAa_Ac.out _).trans (((cell_far (p := ⟨gbAc, _, none⟩) NBAa_Ac.out _).trans (((cell_far (p := ⟨gbAc, _, none⟩) NBAa_Ac.out _).trans (((cell_far (p := ⟨gbAc, _, none⟩) NBAa_Ac.out _).trans (hHeld.1)))))))))))), ((cell_far (p := ⟨gbAc, _, none⟩) NBAa_Ac.out _).trans (((cell_far (p := ⟨gbAc, _, none⟩) NBAa_Ac.out _).trans (((cell_far (p := ⟨gbAc, _, none⟩) NBAa_Ac.out _).trans (((cell_far (p := ⟨gbAc, _, none⟩) NBAa_Ac.out _).trans (((cell_far (p := ⟨gbAc, _, none⟩) NBAa_Ac.out _).trans (((cell_far (p := ⟨gbAc, _, none⟩) NBAa_Ac.out _).trans (hHeld.2.1)))))))))))), ((cell_far (p := ⟨gbAc, _, none⟩) NBAa_Ac.out _).trans (((cell_far (p := ⟨gbAc, _, none⟩) NBAa_Ac.out _).trans (((cell_far (p := ⟨gbAc, _, none⟩) NBAa_Ac.out _).trans (((cell_far (p := ⟨gbAc, _, none⟩) NBAa_Ac.out _).trans (((cell_far (p := ⟨gbAc, _, none⟩) NBAa_Ac.out _).trans (((cell_far (p := ⟨gbAc, _, none⟩) NBAa_Ac.out _).trans (hHeld.2.2.1)))))))))))), ((cell_far (p := ⟨gbAc, _, none⟩) NBAa_Ac.out _).trans (((cell_far (p := ⟨gbAc, _, none⟩) NBAa_Ac.out _).trans (((cell_far (p := ⟨gbAc, _, none⟩) NBAa_Ac.out _).trans (((cell_far (p := ⟨gbAc, _, none⟩) NBAa_Ac.out _).trans (((cell_far (p := ⟨gbAc, _, none⟩) NBAa_Ac.out _).trans (((cell_far (p := ⟨gbAc, _, none⟩) NBAa_Ac.out _).trans (hHeld.2.2.2.1)))))))))))), ((cell_far (p := ⟨gbAc, _, none⟩) NBAa_Ac.out _).trans (((cell_far (p := ⟨gbAc, _, none⟩) NBAa_Ac.out _).trans (((cell_far (p := ⟨gbAc, _, none⟩) NBAa_Ac.out _).trans (((cell_far (p := ⟨gbAc, _, none⟩) NBAa_Ac.out _).trans (((cell_far (p := ⟨gbAc, _, none⟩) NBAa_Ac.out _).trans (((cell_far (p := ⟨gbAc, _, none⟩) NBAa_Ac.out _).trans (hHeld.2.2.2.2.1)))))))))))), ((cell_far (p := ⟨gbAc, _, none⟩) NBAa_Ac.out _).trans (((cell_far (p := ⟨gbAc, _, none⟩) NBAa_Ac.out _).trans (((cell_far (p := ⟨gbAc, _, none⟩) NBAa_Ac.out _).trans (((cell_far (p := ⟨gbAc, _, none⟩) NBAa_Ac.out _).trans (((cell_far (p := ⟨gbAc, _, none⟩) NBAa_Ac.out _).trans (((cell_far (p := ⟨gbAc, _, none⟩) NBAa_Ac.out _).trans (hHeld.2.2.2.2.2))))))))))))⟩ (fun hHeld => ?_)
  clear hK K
  refine pq_ 12 18 HT_ ?_
  refine done_ (done_of HT_.out (by kernel_rfl)) ?_
  try go_wp2
  (try (rw [drewN_self w54]; generalize hq_ : World.drewN w54 _ = w54; have n0_ := Aside0.mk (Kd.R_at hq_ HOAh.out); have n1_ := Aside0.mk (Kd.R_at hq_ HOAi.out); have n2_ := Aside0.mk (Kd.R_at hq_ HOAk.out); have n3_ := Aside0.mk (Kd.R_at hq_ HOAu.out); have n4_ := Aside0.mk (blk_at hq_ BKAe.out); have n5_ := Aside0.mk (blk_at hq_ BKAd.out); have n6_ := Aside0.mk (blk_at hq_ BKAa.out); have n7_ := Aside0.mk (blk_at hq_ BKAb.out); have n8_ := Aside0.mk (blk_at hq_ BKAc.out); have n9_ := Aside0.mk (below_at hq_ HB.out); clear hq_ HOAh HOAi HOAk HOAu BKAe BKAd BKAa BKAb BKAc HB; have HOAh := n0_; have HOAi := n1_; have HOAk := n2_; have HOAu := n3_; have BKAe := n4_; have BKAd := n5_; have BKAa := n6_; have BKAb := n7_; have BKAc := n8_; have HB := n9_; clear n0_ n1_ n2_ n3_ n4_ n5_ n6_ n7_ n8_ n9_))
  have n0_ : Aside0 (Kd.R (Kd.int .i64) 3 ((((((w54.setCell ⟨gbAc, 0, none⟩ (.int .i64 tAs)).setCell ⟨gbAc, 1, none⟩ (.int .i64 tAz)).setCell ⟨gbAc, 2, none⟩ (.int .i64 tBb)).setCell ⟨gbAc, 3, none⟩ (.int .i64 tBe)).setCell ⟨gbAc, 4, none⟩ (.int .i64 tBg)).setCell ⟨gbAc, 5, none⟩ (.slice Ao60 tAx.length co60)) w.heap.size (fun _ => True) (.slice Ao33 tAj.length co33) tAj) := ⟨by (with_reducible repeat (first | apply Kd.R_alloc | apply Kd.R_drewN | apply Kd.R_drew)); exact Kd.R_mono (Kd.R_far (p := ⟨gbAc, 5, none⟩) (Kd.R_far (p := ⟨gbAc, 4, none⟩) (Kd.R_far (p := ⟨gbAc, 3, none⟩) (Kd.R_far (p := ⟨gbAc, 2, none⟩) (Kd.R_far (p := ⟨gbAc, 1, none⟩) (Kd.R_far (p := ⟨gbAc, 0, none⟩) (Kd.R_types HOAh.out BKAc.out (by decide)) (fun _ hk => hk.2) (.int .i64 tAs)) (fun _ hk => hk.2) (.int .i64 tAz)) (fun _ hk => hk.2) (.int .i64 tBb)) (fun _ hk => hk.2) (.int .i64 tBe)) (fun _ hk => hk.2) (.int .i64 tBg)) (fun _ hk => hk.2) (.slice Ao60 tAx.length co60)) (fun _ hk => trivial)⟩
  have n1_ : Aside0 (Kd.R k26 26 ((((((w54.setCell ⟨gbAc, 0, none⟩ (.int .i64 tAs)).setCell ⟨gbAc, 1, none⟩ (.int .i64 tAz)).setCell ⟨gbAc, 2, none⟩ (.int .i64 tBb)).setCell ⟨gbAc, 3, none⟩ (.int .i64 tBe)).setCell ⟨gbAc, 4, none⟩ (.int .i64 tBg)).setCell ⟨gbAc, 5, none⟩ (.slice Ao60 tAx.length co60)) w.heap.size (fun k_ => some k_ ≠ (.slice Ao48 tAt.length co48 : Value).ownBlock ∧ some k_ ≠ (.slice Ao60 tAx.length co60 : Value).ownBlock) (.slice Ao37 tAw.length co37) tAw) := ⟨by (with_reducible repeat (first | apply Kd.R_alloc | apply Kd.R_drewN | apply Kd.R_drew)); exact Kd.R_mono (Kd.R_far (p := ⟨gbAc, 5, none⟩) (Kd.R_far (p := ⟨gbAc, 4, none⟩) (Kd.R_far (p := ⟨gbAc, 3, none⟩) (Kd.R_far (p := ⟨gbAc, 2, none⟩) (Kd.R_far (p := ⟨gbAc, 1, none⟩) (Kd.R_far (p := ⟨gbAc, 0, none⟩) (Kd.R_types HOAi.out BKAc.out (by decide)) (fun _ hk => hk.2) (.int .i64 tAs)) (fun _ hk => hk.2) (.int .i64 tAz)) (fun _ hk => hk.2) (.int .i64 tBb)) (fun _ hk => hk.2) (.int .i64 tBe)) (fun _ hk => hk.2) (.int .i64 tBg)) (fun _ hk => hk.2) (.slice Ao60 tAx.length co60)) (fun _ hk => ⟨hk.1.1, hk.1.2⟩)⟩
  have n2_ : Aside0 (Kd.R k26 26 ((((((w54.setCell ⟨gbAc, 0, none⟩ (.int .i64 tAs)).setCell ⟨gbAc, 1, none⟩ (.int .i64 tAz)).setCell ⟨gbAc, 2, none⟩ (.int .i64 tBb)).setCell ⟨gbAc, 3, none⟩ (.int .i64 tBe)).setCell ⟨gbAc, 4, none⟩ (.int .i64 tBg)).setCell ⟨gbAc, 5, none⟩ (.slice Ao60 tAx.length co60)) w.heap.size (fun k_ => some k_ ≠ (.slice Ao37 tAw.length co37 : Value).ownBlock ∧ some k_ ≠ (.slice Ao60 tAx.length co60 : Value).ownBlock) (.slice Ao48 tAt.length co48) tAt) := ⟨by (with_reducible repeat (first | apply Kd.R_alloc | apply Kd.R_drewN | apply Kd.R_drew)); exact Kd.R_mono (Kd.R_far (p := ⟨gbAc, 5, none⟩) (Kd.R_far (p := ⟨gbAc, 4, none⟩) (Kd.R_far (p := ⟨gbAc, 3, none⟩) (Kd.R_far (p := ⟨gbAc, 2, none⟩) (Kd.R_far (p := ⟨gbAc, 1, none⟩) (Kd.R_far (p := ⟨gbAc, 0, none⟩) (Kd.R_types HOAk.out BKAc.out (by decide)) (fun _ hk => hk.2) (.int .i64 tAs)) (fun _ hk => hk.2) (.int .i64 tAz)) (fun _ hk => hk.2) (.int .i64 tBb)) (fun _ hk => hk.2) (.int .i64 tBe)) (fun _ hk => hk.2) (.int .i64 tBg)) (fun _ hk => hk.2) (.slice Ao60 tAx.length co60)) (fun _ hk => ⟨hk.1.1, hk.1.2⟩)⟩
  have n3_ : Aside0 (Kd.R k26 26 ((((((w54.setCell ⟨gbAc, 0, none⟩ (.int .i64 tAs)).setCell ⟨gbAc, 1, none⟩ (.int .i64 tAz)).setCell ⟨gbAc, 2, none⟩ (.int .i64 tBb)).setCell ⟨gbAc, 3, none⟩ (.int .i64 tBe)).setCell ⟨gbAc, 4, none⟩ (.int .i64 tBg)).setCell ⟨gbAc, 5, none⟩ (.slice Ao60 tAx.length co60)) w.heap.size (fun k_ => some k_ ≠ (.slice Ao37 tAw.length co37 : Value).ownBlock ∧ some k_ ≠ (.slice Ao48 tAt.length co48 : Value).ownBlock) (.slice Ao60 tAx.length co60) tAx) := ⟨by (with_reducible repeat (first | apply Kd.R_alloc | apply Kd.R_drewN | apply Kd.R_drew)); exact Kd.R_mono (Kd.R_far (p := ⟨gbAc, 5, none⟩) (Kd.R_far (p := ⟨gbAc, 4, none⟩) (Kd.R_far (p := ⟨gbAc, 3, none⟩) (Kd.R_far (p := ⟨gbAc, 2, none⟩) (Kd.R_far (p := ⟨gbAc, 1, none⟩) (Kd.R_far (p := ⟨gbAc, 0, none⟩) (Kd.R_types HOAu.out BKAc.out (by decide)) (fun _ hk => hk.2) (.int .i64 tAs)) (fun _ hk => hk.2) (.int .i64 tAz)) (fun _ hk => hk.2) (.int .i64 tBb)) (fun _ hk => hk.2) (.int .i64 tBe)) (fun _ hk => hk.2) (.int .i64 tBg)) (fun _ hk => hk.2) (.slice Ao60 tAx.length co60)) (fun _ hk => ⟨hk.1.1, hk.1.2⟩)⟩
  have n4_ : Aside0 (((((((w54.setCell ⟨gbAc, 0, none⟩ (.int .i64 tAs)).setCell ⟨gbAc, 1, none⟩ (.int .i64 tAz)).setCell ⟨gbAc, 2, none⟩ (.int .i64 tBb)).setCell ⟨gbAc, 3, none⟩ (.int .i64 tBe)).setCell ⟨gbAc, 4, none⟩ (.int .i64 tBg)).setCell ⟨gbAc, 5, none⟩ (.slice Ao60 tAx.length co60)).heap[gbAe]? = some (.cells #[.int .i64 a0_0, .int .i64 a0_1, .int .i64 a0_2, .int .i64 a0_3, .int .i64 a0_4, .slice A0_5 l0_5.length c0_5] 24 (0, 0))) := ⟨by (with_reducible repeat (first | refine blk_drewN ?_ _ | refine blk_drew ?_ | refine blk_alloc ?_ _)); refine blk_far ?_ NBAe_Ac.out _; refine blk_far ?_ NBAe_Ac.out _; refine blk_far ?_ NBAe_Ac.out _; refine blk_far ?_ NBAe_Ac.out _; refine blk_far ?_ NBAe_Ac.out _; refine blk_far ?_ NBAe_Ac.out _; (with_reducible repeat (first | refine blk_drewN ?_ _ | refine blk_drew ?_ | refine blk_alloc ?_ _)); exact BKAe.out⟩
  have n5_ : Aside0 (((((((w54.setCell ⟨gbAc, 0, none⟩ (.int .i64 tAs)).setCell ⟨gbAc, 1, none⟩ (.int .i64 tAz)).setCell ⟨gbAc, 2, none⟩ (.int .i64 tBb)).setCell ⟨gbAc, 3, none⟩ (.int .i64 tBe)).setCell ⟨gbAc, 4, none⟩ (.int .i64 tBg)).setCell ⟨gbAc, 5, none⟩ (.slice Ao60 tAx.length co60)).heap[gbAd]? = some (.cells #[.int .i64 a1_0, .int .i64 a1_1, .int .i64 a1_2, .int .i64 a1_3, .int .i64 a1_4, .slice A1_5 l1_5.length c1_5] 29 (0, 0))) := ⟨by (with_reducible repeat (first | refine blk_drewN ?_ _ | refine blk_drew ?_ | refine blk_alloc ?_ _)); refine blk_far ?_ NBAd_Ac.out _; refine blk_far ?_ NBAd_Ac.out _; refine blk_far ?_ NBAd_Ac.out _; refine blk_far ?_ NBAd_Ac.out _; refine blk_far ?_ NBAd_Ac.out _; refine blk_far ?_ NBAd_Ac.out _; (with_reducible repeat (first | refine blk_drewN ?_ _ | refine blk_drew ?_ | refine blk_alloc ?_ _)); exact BKAd.out⟩
  have n6_ : Aside0 (((((((w54.setCell ⟨gbAc, 0, none⟩ (.int .i64 tAs)).setCell ⟨gbAc, 1, none⟩ (.int .i64 tAz)).setCell ⟨gbAc, 2, none⟩ (.int .i64 tBb)).setCell ⟨gbAc, 3, none⟩ (.int .i64 tBe)).setCell ⟨gbAc, 4, none⟩ (.int .i64 tBg)).setCell ⟨gbAc, 5, none⟩ (.slice Ao60 tAx.length co60)).heap[gbAa]? = some (.cells #[.int .i64 tAg, .int .i64 tAm, .int .i64 tAn, .int .i64 tAp, .int .i64 tAq, .slice Ao33 tAj.length co33] 24 (0, 0))) := ⟨by (with_reducible repeat (first | refine blk_drewN ?_ _ | refine blk_drew ?_ | refine blk_alloc ?_ _)); refine blk_far ?_ NBAa_Ac.out _; refine blk_far ?_ NBAa_Ac.out _; refine blk_far ?_ NBAa_Ac.out _; refine blk_far ?_ NBAa_Ac.out _; refine blk_far ?_ NBAa_Ac.out _; refine blk_far ?_ NBAa_Ac.out _; (with_reducible repeat (first | refine blk_drewN ?_ _ | refine blk_drew ?_ | refine blk_alloc ?_ _)); exact BKAa.out⟩
  have n7_ : Aside0 (((((((w54.setCell ⟨gbAc, 0, none⟩ (.int .i64 tAs)).setCell ⟨gbAc, 1, none⟩ (.int .i64 tAz)).setCell ⟨gbAc, 2, none⟩ (.int .i64 tBb)).setCell ⟨gbAc, 3, none⟩ (.int .i64 tBe)).setCell ⟨gbAc, 4, none⟩ (.int .i64 tBg)).setCell ⟨gbAc, 5, none⟩ (.slice Ao60 tAx.length co60)).heap[gbAb]? = some (.cells #[.int .i64 tAv, .int .i64 tBa, .int .i64 tBd, .int .i64 tBf, .int .i64 tBh, .slice Ao48 tAt.length co48] 29 (0, 0))) := ⟨by (with_reducible repeat (first | refine blk_drewN ?_ _ | refine blk_drew ?_ | refine blk_alloc ?_ _)); refine blk_far ?_ NBAb_Ac.out _; refine blk_far ?_ NBAb_Ac.out _; refine blk_far ?_ NBAb_Ac.out _; refine blk_far ?_ NBAb_Ac.out _; refine blk_far ?_ NBAb_Ac.out _; refine blk_far ?_ NBAb_Ac.out _; (with_reducible repeat (first | refine blk_drewN ?_ _ | refine blk_drew ?_ | refine blk_alloc ?_ _)); exact BKAb.out⟩
  have n8_ : Aside0 (((((((w54.setCell ⟨gbAc, 0, none⟩ (.int .i64 tAs)).setCell ⟨gbAc, 1, none⟩ (.int .i64 tAz)).setCell ⟨gbAc, 2, none⟩ (.int .i64 tBb)).setCell ⟨gbAc, 3, none⟩ (.int .i64 tBe)).setCell ⟨gbAc, 4, none⟩ (.int .i64 tBg)).setCell ⟨gbAc, 5, none⟩ (.slice Ao60 tAx.length co60)).heap[gbAc]? = some (.cells #[.int .i64 tAs, .int .i64 tAz, .int .i64 tBb, .int .i64 tBe, .int .i64 tBg, .slice Ao60 tAx.length co60] 29 (0, 0))) := ⟨by (with_reducible repeat (first | refine blk_drewN ?_ _ | refine blk_drew ?_ | refine blk_alloc ?_ _)); refine blk_put (cs := #[.int .i64 tAs, .int .i64 tAz, .int .i64 tBb, .int .i64 tBe, .int .i64 tBg, .slice none 0 0]) ?_ 5 _ rfl; refine blk_put (cs := #[.int .i64 tAs, .int .i64 tAz, .int .i64 tBb, .int .i64 tBe, .int .i64 0, .slice none 0 0]) ?_ 4 _ rfl; refine blk_put (cs := #[.int .i64 tAs, .int .i64 tAz, .int .i64 tBb, .int .i64 0, .int .i64 0, .slice none 0 0]) ?_ 3 _ rfl; refine blk_put (cs := #[.int .i64 tAs, .int .i64 tAz, .int .i64 0, .int .i64 0, .int .i64 0, .slice none 0 0]) ?_ 2 _ rfl; refine blk_put (cs := #[.int .i64 tAs, .int .i64 0, .int .i64 0, .int .i64 0, .int .i64 0, .slice none 0 0]) ?_ 1 _ rfl; refine blk_put (cs := #[.int .i64 0, .int .i64 0, .int .i64 0, .int .i64 0, .int .i64 0, .slice none 0 0]) ?_ 0 _ rfl; (with_reducible repeat (first | refine blk_drewN ?_ _ | refine blk_drew ?_ | refine blk_alloc ?_ _)); exact BKAc.out⟩
  have n9_ : Aside0 (Below w.heap.size w ((((((w54.setCell ⟨gbAc, 0, none⟩ (.int .i64 tAs)).setCell ⟨gbAc, 1, none⟩ (.int .i64 tAz)).setCell ⟨gbAc, 2, none⟩ (.int .i64 tBb)).setCell ⟨gbAc, 3, none⟩ (.int .i64 tBe)).setCell ⟨gbAc, 4, none⟩ (.int .i64 tBg)).setCell ⟨gbAc, 5, none⟩ (.slice Ao60 tAx.length co60))) := ⟨by repeat (first | (with_reducible first | exact HB.out | apply below_alloc | apply pw_below_drewN | apply below_drew1 | refine below_set ?_ GEAe.out | refine below_set ?_ GEAd.out | refine below_set ?_ GEAa.out | refine below_set ?_ GEAb.out | refine below_set ?_ GEAc.out) | exact HB.out)⟩
  (try clear HOAh)
  (try clear HOAi)
  (try clear HOAk)
  (try clear HOAu)
  (try clear BKAe)
  (try clear BKAd)
  (try clear BKAa)
  (try clear BKAb)
  (try clear BKAc)
  (try clear HB)
  generalize ((((((w54.setCell ⟨gbAc, 0, none⟩ (.int .i64 tAs)).setCell ⟨gbAc, 1, none⟩ (.int .i64 tAz)).setCell ⟨gbAc, 2, none⟩ (.int .i64 tBb)).setCell ⟨gbAc, 3, none⟩ (.int .i64 tBe)).setCell ⟨gbAc, 4, none⟩ (.int .i64 tBg)).setCell ⟨gbAc, 5, none⟩ (.slice Ao60 tAx.length co60)) = w62 at n0_ n1_ n2_ n3_ n4_ n5_ n6_ n7_ n8_ n9_ ⊢
  have HOAh := n0_
  have HOAi := n1_
  have HOAk := n2_
  have HOAu := n3_
  have BKAe := n4_
  have BKAd := n5_
  have BKAa := n6_
  have BKAb := n7_
  have BKAc := n8_
  have HB := n9_
  clear n0_ n1_ n2_ n3_ n4_ n5_ n6_ n7_ n8_ n9_
  replace HOAh := Aside0.mk (Kd.R_drew HOAh.out)
  replace HOAi := Aside0.mk (Kd.R_drew HOAi.out)
  replace HOAk := Aside0.mk (Kd.R_drew HOAk.out)
  replace HOAu := Aside0.mk (Kd.R_drew HOAu.out)
  replace BKAe := Aside0.mk (blk_drew BKAe.out)
  replace BKAd := Aside0.mk (blk_drew BKAd.out)
  replace BKAa := Aside0.mk (blk_drew BKAa.out)
  replace BKAb := Aside0.mk (blk_drew BKAb.out)
  replace BKAc := Aside0.mk (blk_drew BKAc.out)
  replace HB := Aside0.mk (below_drew1 HB.out)
  refine start_ (n := 13) (S := fun w' => w'.cell? ⟨gbAa, 0, none⟩ = some (.int .i64 tAg) ∧ w'.cell? ⟨gbAa, 1, none⟩ = some (.int .i64 tAm) ∧ w'.cell? ⟨gbAa, 2, none⟩ = some (.int .i64 tAn) ∧ w'.cell? ⟨gbAa, 3, none⟩ = some (.int .i64 tAp) ∧ w'.cell? ⟨gbAa, 4, none⟩ = some (.int .i64 tAq) ∧ w'.cell? ⟨gbAa, 5, none⟩ = some (.slice Ao33 tAj.length co33)) (ds := []) #[false, false, false, false, false, false, false, false, false, false, false, false, false] (by kernel_rfl) rfl rfl ⟨(blk_cell BKAa.out 0).trans rfl, (blk_cell BKAa.out 1).trans rfl, (blk_cell BKAa.out 2).trans rfl, (blk_cell BKAa.out 3).trans rfl, (blk_cell BKAa.out 4).trans rfl, (blk_cell BKAa.out 5).trans rfl⟩ (fun hHeld => ?_); refine with_tabW plaitinglaw5_FrameTurn.tab8 plaitinglaw5_FrameTurn.bits8 (fun HT_ HW_ => ?_)
  generalize w62.drew = w63 at HOAh HOAi HOAk HOAu BKAe BKAd BKAa BKAb BKAc HB hHeld ⊢
  refine pq_ 1 61 HT_ ?_
  refine pq_ 2 62 HT_ ?_
  refine pq_ 3 63 HT_ ?_
  refine pq_ 4 64 HT_ ?_
  refine tq_ 0 60 HT_ HW_ hHeld ?_
  refine join_ (σ := Value × Nat) 2 #[true, true, true, true, true, true, true, true, true, true, true, false, false] (fun s_ => [(65, .string tBj), (66, .tuple #[.agg #[.int .i64 tBm, .int .i64 tBx, .int .i64 tBy, .int .i64 tBz, .int .i64 tCa, s_.1], .int .i64 tBv]), (19, .pointer (some ⟨s_.2, 0, none⟩)), (59, .tuple #[.agg #[.int .i64 tBm, .int .i64 tBx, .int .i64 tBy, .int .i64 tBz, .int .i64 tCa, s_.1], .int .i64 tBv]), (67, .agg #[.int .i64 tBm, .int .i64 tBx, .int .i64 tBy, .int .i64 tBz, .int .i64 tCa, s_.1]), (68, .int .i64 tBv)]) (fun s_ w' => (w'.cell? ⟨gbAa, 0, none⟩ = some (.int .i64 tAg) ∧ w'.cell? ⟨gbAa, 1, none⟩ = some (.int .i64 tAm) ∧ w'.cell? ⟨gbAa, 2, none⟩ = some (.int .i64 tAn) ∧ w'.cell? ⟨gbAa, 3, none⟩ = some (.int .i64 tAp) ∧ w'.cell? ⟨gbAa, 4, none⟩ = some (.int .i64 tAq) ∧ w'.cell? ⟨gbAa, 5, none⟩ = some (.slice Ao33 tAj.length co33)) ∧ (Kd.R (Kd.int .i64) 3 w' w.heap.size (fun _ => True) (.slice Ao33 tAj.length co33) tAj) ∧ (Kd.R k26 26 w' w.heap.size (fun k_ => some k_ ≠ (.slice Ao48 tAt.length co48 : Value).ownBlock ∧ some k_ ≠ (.slice Ao60 tAx.length co60 : Value).ownBlock ∧ some k_ ≠ (s_.1 : Value).ownBlock) (.slice Ao37 tAw.length co37) tAw) ∧ (Kd.R k26 26 w' w.heap.size (fun k_ => some k_ ≠ (.slice Ao37 tAw.length co37 : Value).ownBlock ∧ some k_ ≠ (.slice Ao60 tAx.length co60 : Value).ownBlock ∧ some k_ ≠ (s_.1 : Value).ownBlock) (.slice Ao48 tAt.length co48) tAt) ∧ (Kd.R k26 26 w' w.heap.size (fun k_ => some k_ ≠ (.slice Ao37 tAw.length co37 : Value).ownBlock ∧ some k_ ≠ (.slice Ao48 tAt.length co48 : Value).ownBlock ∧ some k_ ≠ (s_.1 : Value).ownBlock) (.slice Ao60 tAx.length co60) tAx) ∧ (Kd.R k26 26 w' w.heap.size (fun k_ => some k_ ≠ (.slice Ao37 tAw.length co37 : Value).ownBlock ∧ some k_ ≠ (.slice Ao48 tAt.length co48 : Value).ownBlock ∧ some k_ ≠ (.slice Ao60 tAx.length co60 : Value).ownBlock) s_.1 tCb) ∧ (w'.heap[gbAe]? = some (.cells #[.int .i64 a0_0, .int .i64 a0_1, .int .i64 a0_2, .int .i64 a0_3, .int .i64 a0_4, .slice A0_5 l0_5.length c0_5] 24 (0, 0))) ∧ (w'.heap[gbAd]? = some (.cells #[.int .i64 a1_0, .int .i64 a1_1, .int .i64 a1_2, .int .i64 a1_3, .int .i64 a1_4, .slice A1_5 l1_5.length c1_5] 29 (0, 0))) ∧ (w'.heap[gbAa]? = some (.cells #[.int .i64 tAg, .int .i64 tAm, .int .i64 tAn, .int .i64 tAp, .int .i64 tAq, .slice Ao33 tAj.length co33] 24 (0, 0))) ∧ (w'.heap[gbAb]? = some (.cells #[.int .i64 tAv, .int .i64 tBa, .int .i64 tBd, .int .i64 tBf, .int .i64 tBh, .slice Ao48 tAt.length co48] 29 (0, 0))) ∧ (w'.heap[gbAc]? = some (.cells #[.int .i64 tAs, .int .i64 tAz, .int .i64 tBb, .int .i64 tBe, .int .i64 tBg, .slice Ao60 tAx.length co60] 29 (0, 0))) ∧ (w'.heap[s_.2]? = some (.cells #[.int .i64 0, .int .i64 0, .int .i64 0, .int .i64 0, .int .i64 0, .slice none 0 0] 29 (0, 0))) ∧ (w.heap.size ≤ s_.2) ∧ (w.heap.size ≤ s_.2) ∧ (gbAe ≠ s_.2) ∧ (s_.2 ≠ gbAe) ∧ (gbAd ≠ s_.2) ∧ (s_.2 ≠ gbAd) ∧ (gbAa ≠ s_.2) ∧ (s_.2 ≠ gbAa) ∧ (gbAb ≠ s_.2) ∧ (s_.2 ≠ gbAb) ∧ (gbAc ≠ s_.2) ∧ (s_.2 ≠ gbAc) ∧ (Below w.heap.size w w')) ?_ ?_
  rotate_left
  ·
   intro hCont
   refine two_ (i := 5) (j := 10) (Ni := some 65) (Nj := some 19) #[true, true, true, true, true, true, false, false, false, false, false, false, false] #[true, true, true, true, true, false, false, false, false, false, true, false, false] rfl rfl rfl rfl (two_of HT_.out (by kernel_rfl)) (by decide) (by decide) (fun K hK => ?_) (fun K hK => ?_)
   ·
    skip
    refine gs_ Try.func32 #[.string tAr, .int .i64 (wrap64 ((tAr.size : Int) - 1))] ?_
    with_reducible refine (plaitingref1_Turn.calls k tAr (wrap64 ((tAr.size : Int) - 1)) tBj _ A18.out).mono ?_
    rintro e w' ⟨rfl, ⟨nd, rfl⟩⟩
    refine ⟨_, rfl, ?_⟩
    refine hK.out _ _ ⟨(blk_cell BKAa.out 0).trans rfl, (blk_cell BKAa.out 1).trans rfl, (blk_cell BKAa.out 2).trans rfl, (blk_cell BKAa.out 3).trans rfl, (blk_cell BKAa.out 4).trans rfl, (blk_cell BKAa.out 5).trans rfl⟩ (fun hHeld => ?_)
    clear hK K
    refine nq_ 65 ?_
    refine two_ (i := 6) (j := 10) (Ni := some 66) (Nj := some 19) #[true, true, true, true, true, true, true, false, false, false, false, false, false] #[true, true, true, true, true, true, false, false, false, false, true, false, false] rfl rfl rfl rfl (two_of HT_.out (by kernel_rfl)) (by decide) (by decide) (fun K hK => ?_) (fun K hK => ?_)
    ·
     skip
     refine gs_ Try.func35 #[.agg #[.int .i64 tAg, .int .i64 tAm, .int .i64 tAn, .int .i64 tAp, .int .i64 tAq, .slice Ao33 tAj.length co33], .string tBj] ?_
     with_reducible refine (frame_Read.calls tAg tAm tAn tAp tAq _ _ tAj tBj tBm tBx tBy tBz tCa tCb tBv _ ?side1 ?side2 A19.out).mono ?_
     (case side1 => exact cC_ (Kd.R_reads' HOAh.out).2.2)
     (case side2 => exact (Kd.R_reads' HOAh.out).2.1)
     rintro e w64 ⟨vBt, rfl, ho0, hb⟩
     refine ⟨_, rfl, ?_⟩
     have HOBu := Aside0.mk (Kd.R_lower (Kd.R_new' (Kd.R_new' (Kd.R_new' ho0 (Kd.R_lt (pR_ HOAi.out))) (Kd.R_lt (pR_ HOAk.out))) (Kd.R_lt (pR_ HOAu.out))) (below_size (pH_ HB.out)))
     replace HOAh := Aside0.mk (Kd.R_below (pR_ HOAh.out) hb)
     replace HOAi := Aside0.mk (Kd.R_elder' (pR_ HOAi.out) (Kd.R_base ho0) hb)
     replace HOAk := Aside0.mk (Kd.R_elder' (pR_ HOAk.out) (Kd.R_base ho0) hb)
     replace HOAu := Aside0.mk (Kd.R_elder' (pR_ HOAu.out) (Kd.R_base ho0) hb)
     replace BKAe := Aside0.mk (blk_below (pB_ BKAe.out) hb)
     replace BKAd := Aside0.mk (blk_below (pB_ BKAd.out) hb)
     replace BKAa := Aside0.mk (blk_below (pB_ BKAa.out) hb)
     replace BKAb := Aside0.mk (blk_below (pB_ BKAb.out) hb)
     replace BKAc := Aside0.mk (blk_below (pB_ BKAc.out) hb)
     replace HB := Aside0.mk (below_step (pH_ HB.out) hb)
     (try clear hb)
     (try clear hb2)
     (try clear hk)
     (try clear hi)
     (try clear ho0)
     refine hK.out _ _ ⟨(blk_cell BKAa.out 0).trans rfl, (blk_cell BKAa.out 1).trans rfl, (blk_cell BKAa.out 2).trans rfl, (blk_cell BKAa.out 3).trans rfl, (blk_cell BKAa.out 4).trans rfl, (blk_cell BKAa.out 5).trans rfl⟩ (fun hHeld => ?_)
     clear hK K
     refine nq_ 66 ?_
     refine pq_ 7 59 HT_ ?_
     refine pq_ 8 67 HT_ ?_
     refine pq_ 9 68 HT_ ?_
     refine oq_ 10 19 HT_ (fun K hK => ?_)
     refine box_step ?hg (N := 19) ?hd (cs := #[.int .i64 0, .int .i64 0, .int .i64 0, .int .i64 0, .int .i64 0, .slice none 0 0]) (t := 29) ?hr ?_; (case hd => rfl); (case hg => rfl); (case hr => first | (go_simp; done) | (go_simp; rfl))
     intro gbAf hg w65 hbox hb
     have BKAf := Aside0.mk (hbox)
     have GWAf := Aside0.mk ((by rw [hg]; exact (below_size (pH_ HB.out)) : w.heap.size ≤ gbAf))
     have GEAf := Aside0.mk ((by rw [hg]; exact (below_size (pH_ HB.out)) : w.heap.size ≤ gbAf))
     have NBAe_Af := Aside0.mk (ltB_ hg BKAe.out)
     have NBAf_Ae := Aside0.mk (ltB_ hg BKAe.out).symm
     have NBAd_Af := Aside0.mk (ltB_ hg BKAd.out)
     have NBAf_Ad := Aside0.mk (ltB_ hg BKAd.out).symm
     have NBAa_Af := Aside0.mk (ltB_ hg BKAa.out)
     have NBAf_Aa := Aside0.mk (ltB_ hg BKAa.out).symm
     have NBAb_Af := Aside0.mk (ltB_ hg BKAb.out)
     have NBAf_Ab := Aside0.mk (ltB_ hg BKAb.out).symm
     have NBAc_Af := Aside0.mk (ltB_ hg BKAc.out)
     have NBAf_Ac := Aside0.mk (ltB_ hg BKAc.out).symm
     replace HOAh := Aside0.mk (Kd.R_below (pR_ HOAh.out) hb)
     replace HOAi := Aside0.mk (Kd.R_below (pR_ HOAi.out) hb)
     replace HOAk := Aside0.mk (Kd.R_below (pR_ HOAk.out) hb)
     replace HOAu := Aside0.mk (Kd.R_below (pR_ HOAu.out) hb)
     replace HOBu := Aside0.mk (Kd.R_below (pR_ HOBu.out) hb)
     replace BKAe := Aside0.mk (blk_below (pB_ BKAe.out) hb)
     replace BKAd := Aside0.mk (blk_below (pB_ BKAd.out) hb)
     replace BKAa := Aside0.mk (blk_below (pB_ BKAa.out) hb)
     replace BKAb := Aside0.mk (blk_below (pB_ BKAb.out) hb)
     replace BKAc := Aside0.mk (blk_below (pB_ BKAc.out) hb)
     replace HB := Aside0.mk (below_step (pH_ HB.out) hb)
     clear hb hbox hg
     refine hK.out _ _ ⟨(blk_cell BKAa.out 0).trans rfl, (blk_cell BKAa.out 1).trans rfl, (blk_cell BKAa.out 2).trans rfl, (blk_cell BKAa.out 3).trans rfl, (blk_cell BKAa.out 4).trans rfl, (blk_cell BKAa.out 5).trans rfl⟩ (fun hHeld => ?_)
     clear hK K
     refine nq_ 19 ?_
     exact norm_ (by simp only [putAll, Act.put, List.setIfInBounds_toArray, List.set_cons_zero, List.set_cons_succ]) (hCont (vBt, gbAf) _ ⟨hHeld, (pR_ HOAh.out), (by (with_reducible repeat (first | apply Kd.R_alloc | apply Kd.R_drewN | apply Kd.R_drew)); exact Kd.R_mono HOAi.out (fun _ hk => ⟨hk.1.1, ⟨hk.1.2, hk.2⟩⟩)), (by (with_reducible repeat (first | apply Kd.R_alloc | apply Kd.R_drewN | apply Kd.R_drew)); exact Kd.R_mono HOAk.out (fun _ hk => ⟨hk.1.1, ⟨hk.1.2, hk.2⟩⟩)), (by (with_reducible repeat (first | apply Kd.R_alloc | apply Kd.R_drewN | apply Kd.R_drew)); exact Kd.R_mono HOAu.out (fun _ hk => ⟨hk.1.1, ⟨hk.1.2, hk.2⟩⟩)), (by (with_reducible repeat (first | apply Kd.R_alloc | apply Kd.R_drewN | apply Kd.R_drew)); exact Kd.R_mono HOBu.out (fun _ hk => ⟨hk.1.1.2, ⟨hk.1.2, hk.2⟩⟩)), (pB_ BKAe.out), (pB_ BKAd.out), (pB_ BKAa.out), (pB_ BKAb.out), (pB_ BKAc.out), (pB_ BKAf.out), GWAf.out, GEAf.out, NBAe_Af.out, NBAf_Ae.out, NBAd_Af.out, NBAf_Ad.out, NBAa_Af.out, NBAf_Aa.out, NBAb_Af.out, NBAf_Ab.out, NBAc_Af.out, NBAf_Ac.out, (pH_ HB.out)⟩)
    skip
    refine box_step ?hg (N := 19) ?hd (cs := #[.int .i64 0, .int .i64 0, .int .i64 0, .int .i64 0, .int .i64 0, .slice none 0 0]) (t := 29) ?hr ?_; (case hd => rfl); (case hg => rfl); (case hr => first | (go_simp; done) | (go_simp; rfl))
    intro gbAf hg w64 hbox hb
    have BKAf := Aside0.mk (hbox)
    have GWAf := Aside0.mk ((by rw [hg]; exact (below_size (pH_ HB.out)) : w.heap.size ≤ gbAf))
    have GEAf := Aside0.mk ((by rw [hg]; exact (below_size (pH_ HB.out)) : w.heap.size ≤ gbAf))
    have NBAe_Af := Aside0.mk (ltB_ hg BKAe.out)
    have NBAf_Ae := Aside0.mk (ltB_ hg BKAe.out).symm
    have NBAd_Af := Aside0.mk (ltB_ hg BKAd.out)
    have NBAf_Ad := Aside0.mk (ltB_ hg BKAd.out).symm
    have NBAa_Af := Aside0.mk (ltB_ hg BKAa.out)
    have NBAf_Aa := Aside0.mk (ltB_ hg BKAa.out).symm
    have NBAb_Af := Aside0.mk (ltB_ hg BKAb.out)
    have NBAf_Ab := Aside0.mk (ltB_ hg BKAb.out).symm
    have NBAc_Af := Aside0.mk (ltB_ hg BKAc.out)
    have NBAf_Ac := Aside0.mk (ltB_ hg BKAc.out).symm
    replace HOAh := Aside0.mk (Kd.R_below (pR_ HOAh.out) hb)
    replace HOAi := Aside0.mk (Kd.R_below (pR_ HOAi.out) hb)
    replace HOAk := Aside0.mk (Kd.R_below (pR_ HOAk.out) hb)
    replace HOAu := Aside0.mk (Kd.R_below (pR_ HOAu.out) hb)
    replace BKAe := Aside0.mk (blk_below (pB_ BKAe.out) hb)
    replace BKAd := Aside0.mk (blk_below (pB_ BKAd.out) hb)
    replace BKAa := Aside0.mk (blk_below (pB_ BKAa.out) hb)
    replace BKAb := Aside0.mk (blk_below (pB_ BKAb.out) hb)
    replace BKAc := Aside0.mk (blk_below (pB_ BKAc.out) hb)
    replace HB := Aside0.mk (below_step (pH_ HB.out) hb)
    clear hb hbox hg
    refine hK.out _ _ ⟨(blk_cell BKAa.out 0).trans rfl, (blk_cell BKAa.out 1).trans rfl, (blk_cell BKAa.out 2).trans rfl, (blk_cell BKAa.out 3).trans rfl, (blk_cell BKAa.out 4).trans rfl, (blk_cell BKAa.out 5).trans rfl⟩ (fun hHeld => ?_)
    clear hK K
    refine nq_ 19 ?_
    refine oq_ 6 66 HT_ (fun K hK => ?_)
    refine gs_ Try.func35 #[.agg #[.int .i64 tAg, .int .i64 tAm, .int .i64 tAn, .int .i64 tAp, .int .i64 tAq, .slice Ao33 tAj.length co33], .string tBj] ?_
    with_reducible refine (frame_Read.calls tAg tAm tAn tAp tAq _ _ tAj tBj tBm tBx tBy tBz tCa tCb tBv _ ?side1 ?side2 A19.out).mono ?_
    (case side1 => exact cC_ (Kd.R_reads' HOAh.out).2.2)
    (case side2 => exact (Kd.R_reads' HOAh.out).2.1)
    rintro e w65 ⟨vBt, rfl, ho0, hb⟩
    refine ⟨_, rfl, ?_⟩
    have HOBu := Aside0.mk (Kd.R_lower (Kd.R_new' (Kd.R_new' (Kd.R_new' ho0 (Kd.R_lt (pR_ HOAi.out))) (Kd.R_lt (pR_ HOAk.out))) (Kd.R_lt (pR_ HOAu.out))) (below_size (pH_ HB.out)))
    replace HOAh := Aside0.mk (Kd.R_below (pR_ HOAh.out) hb)
    replace HOAi := Aside0.mk (Kd.R_elder' (pR_ HOAi.out) (Kd.R_base ho0) hb)
    replace HOAk := Aside0.mk (Kd.R_elder' (pR_ HOAk.out) (Kd.R_base ho0) hb)
    replace HOAu := Aside0.mk (Kd.R_elder' (pR_ HOAu.out) (Kd.R_base ho0) hb)
    replace BKAe := Aside0.mk (blk_below (pB_ BKAe.out) hb)
    replace BKAd := Aside0.mk (blk_below (pB_ BKAd.out) hb)
    replace BKAa := Aside0.mk (blk_below (pB_ BKAa.out) hb)
    replace BKAb := Aside0.mk (blk_below (pB_ BKAb.out) hb)
    replace BKAc := Aside0.mk (blk_below (pB_ BKAc.out) hb)
    replace BKAf := Aside0.mk (blk_below (pB_ BKAf.out) hb)
    replace HB := Aside0.mk (below_step (pH_ HB.out) hb)
    (try clear hb)
    (try clear hb2)
    (try clear hk)
    (try clear hi)
    (try clear ho0)
    refine hK.out _ _ ⟨(blk_cell BKAa.out 0).trans rfl, (blk_cell BKAa.out 1).trans rfl, (blk_cell BKAa.out 2).trans rfl, (blk_cell BKAa.out 3).trans rfl, (blk_cell BKAa.out 4).trans rfl, (blk_cell BKAa.out 5).trans rfl⟩ (fun hHeld => ?_)
    clear hK K
    refine nq_ 66 ?_
    refine pq_ 7 59 HT_ ?_
    refine pq_ 8 67 HT_ ?_
    refine pq_ 9 68 HT_ ?_
    exact norm_ (by simp only [putAll, Act.put, List.setIfInBounds_toArray, List.set_cons_zero, List.set_cons_succ]) (hCont (vBt, gbAf) _ ⟨hHeld, (pR_ HOAh.out), (by (with_reducible repeat (first | apply Kd.R_alloc | apply Kd.R_drewN | apply Kd.R_drew)); exact Kd.R_mono HOAi.out (fun _ hk => ⟨hk.1.1, ⟨hk.1.2, hk.2⟩⟩)), (by (with_reducible repeat (first | apply Kd.R_alloc | apply Kd.R_drewN | apply Kd.R_drew)); exact Kd.R_mono HOAk.out (fun _ hk => ⟨hk.1.1, ⟨hk.1.2, hk.2⟩⟩)), (by (with_reducible repeat (first | apply Kd.R_alloc | apply Kd.R_drewN | apply Kd.R_drew)); exact Kd.R_mono HOAu.out (fun _ hk => ⟨hk.1.1, ⟨hk.1.2, hk.2⟩⟩)), (by (with_reducible repeat (first | apply Kd.R_alloc | apply Kd.R_drewN | apply Kd.R_drew)); exact Kd.R_mono HOBu.out (fun _ hk => ⟨hk.1.1.2, ⟨hk.1.2, hk.2⟩⟩)), (pB_ BKAe.out), (pB_ BKAd.out), (pB_ BKAa.out), (pB_ BKAb.out), (pB_ BKAc.out), (pB_ BKAf.out), GWAf.out, GEAf.out, NBAe_Af.out, NBAf_Ae.out, NBAd_Af.out, NBAf_Ad.out, NBAa_Af.out, NBAf_Aa.out, NBAb_Af.out, NBAf_Ab.out, NBAc_Af.out, NBAf_Ac.out, (pH_ HB.out)⟩)
   skip
   refine box_step ?hg (N := 19) ?hd (cs := #[.int .i64 0, .int .i64 0, .int .i64 0, .int .i64 0, .int .i64 0, .slice none 0 0]) (t := 29) ?hr ?_; (case hd => rfl); (case hg => rfl); (case hr => first | (go_simp; done) | (go_simp; rfl))
   intro gbAf hg w64 hbox hb
   have BKAf := Aside0.mk (hbox)
   have GWAf := Aside0.mk ((by rw [hg]; exact (below_size (pH_ HB.out)) : w.heap.size ≤ gbAf))
   have GEAf := Aside0.mk ((by rw [hg]; exact (below_size (pH_ HB.out)) : w.heap.size ≤ gbAf))
   have NBAe_Af := Aside0.mk (ltB_ hg BKAe.out)
   have NBAf_Ae := Aside0.mk (ltB_ hg BKAe.out).symm
   have NBAd_Af := Aside0.mk (ltB_ hg BKAd.out)
   have NBAf_Ad := Aside0.mk (ltB_ hg BKAd.out).symm
   have NBAa_Af := Aside0.mk (ltB_ hg BKAa.out)
   have NBAf_Aa := Aside0.mk (ltB_ hg BKAa.out).symm
   have NBAb_Af := Aside0.mk (ltB_ hg BKAb.out)
   have NBAf_Ab := Aside0.mk (ltB_ hg BKAb.out).symm
   have NBAc_Af := Aside0.mk (ltB_ hg BKAc.out)
   have NBAf_Ac := Aside0.mk (ltB_ hg BKAc.out).symm
   replace HOAh := Aside0.mk (Kd.R_below (pR_ HOAh.out) hb)
   replace HOAi := Aside0.mk (Kd.R_below (pR_ HOAi.out) hb)
   replace HOAk := Aside0.mk (Kd.R_below (pR_ HOAk.out) hb)
   replace HOAu := Aside0.mk (Kd.R_below (pR_ HOAu.out) hb)
   replace BKAe := Aside0.mk (blk_below (pB_ BKAe.out) hb)
   replace BKAd := Aside0.mk (blk_below (pB_ BKAd.out) hb)
   replace BKAa := Aside0.mk (blk_below (pB_ BKAa.out) hb)
   replace BKAb := Aside0.mk (blk_below (pB_ BKAb.out) hb)
   replace BKAc := Aside0.mk (blk_below (pB_ BKAc.out) hb)
   replace HB := Aside0.mk (below_step (pH_ HB.out) hb)
   clear hb hbox hg
   refine hK.out _ _ ⟨(blk_cell BKAa.out 0).trans rfl, (blk_cell BKAa.out 1).trans rfl, (blk_cell BKAa.out 2).trans rfl, (blk_cell BKAa.out 3).trans rfl, (blk_cell BKAa.out 4).trans rfl, (blk_cell BKAa.out 5).trans rfl⟩ (fun hHeld => ?_)
   clear hK K
   refine nq_ 19 ?_
   refine oq_ 5 65 HT_ (fun K hK => ?_)
   refine gs_ Try.func32 #[.string tAr, .int .i64 (wrap64 ((tAr.size : Int) - 1))] ?_
   with_reducible refine (plaitingref1_Turn.calls k tAr (wrap64 ((tAr.size : Int) - 1)) tBj _ A18.out).mono ?_
   rintro e w' ⟨rfl, ⟨nd, rfl⟩⟩
   refine ⟨_, rfl, ?_⟩
   refine hK.out _ _ ⟨(blk_cell BKAa.out 0).trans rfl, (blk_cell BKAa.out 1).trans rfl, (blk_cell BKAa.out 2).trans rfl, (blk_cell BKAa.out 3).trans rfl, (blk_cell BKAa.out 4).trans rfl, (blk_cell BKAa.out 5).trans rfl⟩ (fun hHeld => ?_)
   clear hK K
   refine nq_ 65 ?_
   refine oq_ 6 66 HT_ (fun K hK => ?_)
   refine gs_ Try.func35 #[.agg #[.int .i64 tAg, .int .i64 tAm, .int .i64 tAn, .int .i64 tAp, .int .i64 tAq, .slice Ao33 tAj.length co33], .string tBj] ?_
   with_reducible refine (frame_Read.calls tAg tAm tAn tAp tAq _ _ tAj tBj tBm tBx tBy tBz tCa tCb tBv _ ?side1 ?side2 A19.out).mono ?_
   (case side1 => exact cC_ (Kd.R_reads' HOAh.out).2.2)
   (case side2 => exact (Kd.R_reads' HOAh.out).2.1)
   rintro e w65 ⟨vBt, rfl, ho0, hb⟩
   refine ⟨_, rfl, ?_⟩
   have HOBu := Aside0.mk (Kd.R_lower (Kd.R_new' (Kd.R_new' (Kd.R_new' ho0 (Kd.R_lt (pR_ HOAi.out))) (Kd.R_lt (pR_ HOAk.out))) (Kd.R_lt (pR_ HOAu.out))) (below_size (pH_ HB.out)))
   replace HOAh := Aside0.mk (Kd.R_below (pR_ HOAh.out) hb)
   replace HOAi := Aside0.mk (Kd.R_elder' (pR_ HOAi.out) (Kd.R_base ho0) hb)
   replace HOAk := Aside0.mk (Kd.R_elder' (pR_ HOAk.out) (Kd.R_base ho0) hb)
   replace HOAu := Aside0.mk (Kd.R_elder' (pR_ HOAu.out) (Kd.R_base ho0) hb)
   replace BKAe := Aside0.mk (blk_below (pB_ BKAe.out) hb)
   replace BKAd := Aside0.mk (blk_below (pB_ BKAd.out) hb)
   replace BKAa := Aside0.mk (blk_below (pB_ BKAa.out) hb)
   replace BKAb := Aside0.mk (blk_below (pB_ BKAb.out) hb)
   replace BKAc := Aside0.mk (blk_below (pB_ BKAc.out) hb)
   replace BKAf := Aside0.mk (blk_below (pB_ BKAf.out) hb)
   replace HB := Aside0.mk (below_step (pH_ HB.out) hb)
   (try clear hb)
   (try clear hb2)
   (try clear hk)
   (try clear hi)
   (try clear ho0)
   refine hK.out _ _ ⟨(blk_cell BKAa.out 0).trans rfl, (blk_cell BKAa.out 1).trans rfl, (blk_cell BKAa.out 2).trans rfl, (blk_cell BKAa.out 3).trans rfl, (blk_cell BKAa.out 4).trans rfl, (blk_cell BKAa.out 5).trans rfl⟩ (fun hHeld => ?_)
   clear hK K
   refine nq_ 66 ?_
   refine pq_ 7 59 HT_ ?_
   refine pq_ 8 67 HT_ ?_
   refine pq_ 9 68 HT_ ?_
   exact norm_ (by simp only [putAll, Act.put, List.setIfInBounds_toArray, List.set_cons_zero, List.set_cons_succ]) (hCont (vBt, gbAf) _ ⟨hHeld, (pR_ HOAh.out), (by (with_reducible repeat (first | apply Kd.R_alloc | apply Kd.R_drewN | apply Kd.R_drew)); exact Kd.R_mono HOAi.out (fun _ hk => ⟨hk.1.1, ⟨hk.1.2, hk.2⟩⟩)), (by (with_reducible repeat (first | apply Kd.R_alloc | apply Kd.R_drewN | apply Kd.R_drew)); exact Kd.R_mono HOAk.out (fun _ hk => ⟨hk.1.1, ⟨hk.1.2, hk.2⟩⟩)), (by (with_reducible repeat (first | apply Kd.R_alloc | apply Kd.R_drewN | apply Kd.R_drew)); exact Kd.R_mono HOAu.out (fun _ hk => ⟨hk.1.1, ⟨hk.1.2, hk.2⟩⟩)), (by (with_reducible repeat (first | apply Kd.R_alloc | apply Kd.R_drewN | apply Kd.R_drew)); exact Kd.R_mono HOBu.out (fun _ hk => ⟨hk.1.1.2, ⟨hk.1.2, hk.2⟩⟩)), (pB_ BKAe.out), (pB_ BKAd.out), (pB_ BKAa.out), (pB_ BKAb.out), (pB_ BKAc.out), (pB_ BKAf.out), GWAf.out, GEAf.out, NBAe_Af.out, NBAf_Ae.out, NBAd_Af.out, NBAf_Ad.out, NBAa_Af.out, NBAf_Aa.out, NBAb_Af.out, NBAf_Ab.out, NBAc_Af.out, NBAf_Ac.out, (pH_ HB.out)⟩)
  rintro ⟨vBt, gbAf⟩ w66 ⟨hS_, h0_, h1_, h2_, h3_, h4_, h5_, h6_, h7_, h8_, h9_, h10_, h11_, h12_, h13_, h14_, h15_, h16_, h17_, h18_, h19_, h20_, h21_, h22_, h23_⟩
  have n0_ : Aside0 (Kd.R (Kd.int .i64) 3 w66 w.heap.size (fun _ => True) (.slice Ao33 tAj.length co33) tAj) := ⟨h0_⟩
  have n1_ : Aside0 (Kd.R k26 26 w66 w.heap.size (fun k_ => some k_ ≠ (.slice Ao48 tAt.length co48 : Value).ownBlock ∧ some k_ ≠ (.slice Ao60 tAx.length co60 : Value).ownBlock ∧ some k_ ≠ (vBt : Value).ownBlock) (.slice Ao37 tAw.length co37) tAw) := ⟨h1_⟩
  have n2_ : Aside0 (Kd.R k26 26 w66 w.heap.size (fun k_ => some k_ ≠ (.slice Ao37 tAw.length co37 : Value).ownBlock ∧ some k_ ≠ (.slice Ao60 tAx.length co60 : Value).ownBlock ∧ some k_ ≠ (vBt : Value).ownBlock) (.slice Ao48 tAt.length co48) tAt) := ⟨h2_⟩
  have n3_ : Aside0 (Kd.R k26 26 w66 w.heap.size (fun k_ => some k_ ≠ (.slice Ao37 tAw.length co37 : Value).ownBlock ∧ some k_ ≠ (.slice Ao48 tAt.length co48 : Value).ownBlock ∧ some k_ ≠ (vBt : Value).ownBlock) (.slice Ao60 tAx.length co60) tAx) := ⟨h3_⟩
  have n4_ : Aside0 (Kd.R k26 26 w66 w.heap.size (fun k_ => some k_ ≠ (.slice Ao37 tAw.length co37 : Value).ownBlock ∧ some k_ ≠ (.slice Ao48 tAt.length co48 : Value).ownBlock ∧ some k_ ≠ (.slice Ao60 tAx.length co60 : Value).ownBlock) vBt tCb) := ⟨h4_⟩
  have n5_ : Aside0 (w66.heap[gbAe]? = some (.cells #[.int .i64 a0_0, .int .i64 a0_1, .int .i64 a0_2, .int .i64 a0_3, .int .i64 a0_4, .slice A0_5 l0_5.length c0_5] 24 (0, 0))) := ⟨h5_⟩
  have n6_ : Aside0 (w66.heap[gbAd]? = some (.cells #[.int .i64 a1_0, .int .i64 a1_1, .int .i64 a1_2, .int .i64 a1_3, .int .i64 a1_4, .slice A1_5 l1_5.length c1_5] 29 (0, 0))) := ⟨h6_⟩
  have n7_ : Aside0 (w66.heap[gbAa]? = some (.cells #[.int .i64 tAg, .int .i64 tAm, .int .i64 tAn, .int .i64 tAp, .int .i64 tAq, .slice Ao33 tAj.length co33] 24 (0, 0))) := ⟨h7_⟩
  have n8_ : Aside0 (w66.heap[gbAb]? = some (.cells #[.int .i64 tAv, .int .i64 tBa, .int .i64 tBd, .int .i64 tBf, .int .i64 tBh, .slice Ao48 tAt.length co48] 29 (0, 0))) := ⟨h8_⟩
  have n9_ : Aside0 (w66.heap[gbAc]? = some (.cells #[.int .i64 tAs, .int .i64 tAz, .int .i64 tBb, .int .i64 tBe, .int .i64 tBg, .slice Ao60 tAx.length co60] 29 (0, 0))) := ⟨h9_⟩
  have n10_ : Aside0 (w66.heap[gbAf]? = some (.cells #[.int .i64 0, .int .i64 0, .int .i64 0, .int .i64 0, .int .i64 0, .slice none 0 0] 29 (0, 0))) := ⟨h10_⟩
  have n11_ : Aside0 (w.heap.size ≤ gbAf) := ⟨h11_⟩
  have n12_ : Aside0 (w.heap.size ≤ gbAf) := ⟨h12_⟩
  have n13_ : Aside0 (gbAe ≠ gbAf) := ⟨h13_⟩
  have n14_ : Aside0 (gbAf ≠ gbAe) := ⟨h14_⟩
  have n15_ : Aside0 (gbAd ≠ gbAf) := ⟨h15_⟩
  have n16_ : Aside0 (gbAf ≠ gbAd) := ⟨h16_⟩
  have n17_ : Aside0 (gbAa ≠ gbAf) := ⟨h17_⟩
  have n18_ : Aside0 (gbAf ≠ gbAa) := ⟨h18_⟩
  have n19_ : Aside0 (gbAb ≠ gbAf) := ⟨h19_⟩
  have n20_ : Aside0 (gbAf ≠ gbAb) := ⟨h20_⟩
  have n21_ : Aside0 (gbAc ≠ gbAf) := ⟨h21_⟩
  have n22_ : Aside0 (gbAf ≠ gbAc) := ⟨h22_⟩
  have n23_ : Aside0 (Below w.heap.size w w66) := ⟨h23_⟩
  clear HOAh
  clear HOAi
  clear HOAk
  clear HOAu
  clear BKAe
  clear BKAd
  clear BKAa
  clear BKAb
  clear BKAc
  clear HB
  clear h0_ h1_ h2_ h3_ h4_ h5_ h6_ h7_ h8_ h9_ h10_ h11_ h12_ h13_ h14_ h15_ h16_ h17_ h18_ h19_ h20_ h21_ h22_ h23_
  have HOAh := n0_
  have HOAi := n1_
  have HOAk := n2_
  have HOAu := n3_
  have HOBu := n4_
  have BKAe := n5_
  have BKAd := n6_
  have BKAa := n7_
  have BKAb := n8_
  have BKAc := n9_
  have BKAf := n10_
  have GWAf := n11_
  have GEAf := n12_
  have NBAe_Af := n13_
  have NBAf_Ae := n14_
  have NBAd_Af := n15_
  have NBAf_Ad := n16_
  have NBAa_Af := n17_
  have NBAf_Aa := n18_
  have NBAb_Af := n19_
  have NBAf_Ab := n20_
  have NBAc_Af := n21_
  have NBAf_Ac := n22_
  have HB := n23_
  clear n0_ n1_ n2_ n3_ n4_ n5_ n6_ n7_ n8_ n9_ n10_ n11_ n12_ n13_ n14_ n15_ n16_ n17_ n18_ n19_ n20_ n21_ n22_ n23_
  have hHeld : w66.cell? ⟨gbAa, 0, none⟩ = some (.int .i64 tAg) ∧ w66.cell? ⟨gbAa, 1, none⟩ = some (.int .i64 tAm) ∧ w66.cell? ⟨gbAa, 2, none⟩ = some (.int .i64 tAn) ∧ w66.cell? ⟨gbAa, 3, none⟩ = some (.int .i64 tAp) ∧ w66.cell? ⟨gbAa, 4, none⟩ = some (.int .i64 tAq) ∧ w66.cell? ⟨gbAa, 5, none⟩ = some (.slice Ao33 tAj.length co33) := hS_
  obtain ⟨Ao72, co72, eo72⟩ := Kd.R_slice HOBu.out
  (first | subst eo72 | (injection eo72 with f1_ f2_ f3_; have f4_ := f1_.symm; have f5_ := f3_.symm; clear f1_ f2_ f3_; subst f4_; subst f5_))
  refine norm_ (a' := ?_) ?_ ?_
  rotate_left
  ·
   simp only [putAll, Act.put, List.setIfInBounds_toArray, List.set_cons_zero, List.set_cons_succ]
   rfl
  refine one_ (i := 11) (N := none) #[true, true, true, true, true, true, true, true, true, true, true, true, false] rfl rfl (one_of HT_.out (by kernel_rfl)) (by decide) (fun K hK => ?_)
  have hs67 : w66.cell? ⟨gbAf, 0, none⟩ = some (.int .i64 0) := (blk_cell BKAf.out 0).trans rfl
  have hfs67 := blk_frozen BKAf.out 0
  have hns67_0 := NBAe_Af.out
  have hns67_1 := NBAd_Af.out
  have hns67_2 := NBAa_Af.out
  have hns67_3 := NBAb_Af.out
  have hns67_4 := NBAc_Af.out
  have hms67_0 := NBAf_Ae.out
  have hms67_1 := NBAf_Ad.out
  have hms67_2 := NBAf_Aa.out
  have hms67_3 := NBAf_Ab.out
  have hms67_4 := NBAf_Ac.out
  have hs68 : w66.cell? ⟨gbAf, 1, none⟩ = some (.int .i64 0) := (blk_cell BKAf.out 1).trans rfl
  have hfs68 := blk_frozen BKAf.out 1
  have hns68_0 := NBAe_Af.out
  have hns68_1 := NBAd_Af.out
  have hns68_2 := NBAa_Af.out
  have hns68_3 := NBAb_Af.out
  have hns68_4 := NBAc_Af.out
  have hms68_0 := NBAf_Ae.out
  have hms68_1 := NBAf_Ad.out
  have hms68_2 := NBAf_Aa.out
  have hms68_3 := NBAf_Ab.out
  have hms68_4 := NBAf_Ac.out
  have hs69 : w66.cell? ⟨gbAf, 2, none⟩ = some (.int .i64 0) := (blk_cell BKAf.out 2).trans rfl
  have hfs69 := blk_frozen BKAf.out 2
  have hns69_0 := NBAe_Af.out
  have hns69_1 := NBAd_Af.out
  have hns69_2 := NBAa_Af.out
  have hns69_3 := NBAb_Af.out
  have hns69_4 := NBAc_Af.out
  have hms69_0 := NBAf_Ae.out
  have hms69_1 := NBAf_Ad.out
  have hms69_2 := NBAf_Aa.out
  have hms69_3 := NBAf_Ab.out
  have hms69_4 := NBAf_Ac.out
  have hs70 : w66.cell? ⟨gbAf, 3, none⟩ = some (.int .i64 0) := (blk_cell BKAf.out 3).trans rfl
  have hfs70 := blk_frozen BKAf.out 3
  have hns70_0 := NBAe_Af.out
  have hns70_1 := NBAd_Af.out
  have hns70_2 := NBAa_Af.out
  have hns70_3 := NBAb_Af.out
  have hns70_4 := NBAc_Af.out
  have hms70_0 := NBAf_Ae.out
  have hms70_1 := NBAf_Ad.out
  have hms70_2 := NBAf_Aa.out
  have hms70_3 := NBAf_Ab.out
  have hms70_4 := NBAf_Ac.out
  have hs71 : w66.cell? ⟨gbAf, 4, none⟩ = some (.int .i64 0) := (blk_cell BKAf.out 4).trans rfl
  have hfs71 := blk_frozen BKAf.out 4
  have hns71_0 := NBAe_Af.out
  have hns71_1 := NBAd_Af.out
  have hns71_2 := NBAa_Af.out
  have hns71_3 := NBAb_Af.out
  have hns71_4 := NBAc_Af.out
  have hms71_0 := NBAf_Ae.out
  have hms71_1 := NBAf_Ad.out
  have hms71_2 := NBAf_Aa.out
  have hms71_3 := NBAf_Ab.out
  have hms71_4 := NBAf_Ac.out
  have hs73 : w66.cell? ⟨gbAf, 5, none⟩ = some (.slice none 0 0) := (blk_cell BKAf.out 5).trans rfl
  have hfs73 := blk_frozen BKAf.out 5
  have hns73_0 := NBAe_Af.out
  have hns73_1 := NBAd_Af.out
  have hns73_2 := NBAa_Af.out
  have hns73_3 := NBAb_Af.out
  have hns73_4 := NBAc_Af.out
  have hms73_0 := NBAf_Ae.out
  have hms73_1 := NBAf_Ad.out
  have hms73_2 := NBAf_Aa.out
  have hms73_3 := NBAf_Ab.out
  have hms73_4 := NBAf_Ac.out
  refine skip_ (w1 := ?_) (by rfl) rfl ?_ ?_
  rotate_left
  ·
   go_simp
   rfl
  refine hK.out _ _ ⟨((cell_far (p := ⟨gbAf, _, none⟩) NBAa_Af.out _).trans (((cell_far (p := ⟨gbAf, _, none⟩) NBAa_Af.out _).trans (((cell_far (p := ⟨gbAf, _, none⟩) NBAa_Af.out _).trans (((cell_far (p := ⟨gbAf, _, none⟩) NBAa_Af.out _).trans (((cell_far (p := ⟨gbAf, _, none⟩) NBAa_Af.out _).trans (((cell_far (p := ⟨gbAf, _, none⟩) NBAa_Af.out _).trans (hHeld.1)))))))))))), ((cell_far (p := ⟨gbAf, _, none⟩) NBAa_Af.out _).trans (((cell_far (p := ⟨gbAf, _, none⟩) NBAa_Af.out _).trans (((cell_far (p := ⟨gbAf, _, none⟩) NBAa_Af.out _).trans (((cell_far (p := ⟨gbAf, _, none⟩) NBAa_Af.out _).trans (((cell_far (p := ⟨gbAf, _, none⟩) NBAa_Af.out _).trans (((cell_far (p := ⟨gbAf, _, none⟩) NBAa_Af.out _).trans (hHeld.2.1)))))))))))), ((cell_far (p := ⟨gbAf, _, none⟩) NBAa_Af.out _).trans (((cell_far (p := ⟨gbAf, _, none⟩) NBAa_Af.out _).trans (((cell_far (p := ⟨gbAf, _, none⟩) NBAa_Af.out _).trans (((cell_far (p := ⟨gbAf, _, none⟩) NBAa_Af.out _).trans (((cell_far (p := ⟨gbAf, _, none⟩) NBAa_Af.out _).trans (((cell_far (p := ⟨gbAf, _, none⟩) NBAa_Af.out _).trans (hHeld.2.2.1)))))))))))), ((cell_far (p := ⟨gbAf, _, none⟩) NBAa_Af.out _).trans (((cell_far (p := ⟨gbAf, _, none⟩) NBAa_Af.out _).trans (((cell_far (p := ⟨gbAf, _, none⟩) NBAa_Af.out _).trans (((cell_far (p := ⟨gbAf, _, none⟩) NBAa_Af.out _).trans (((cell_far (p := ⟨gbAf, _, none⟩) NBAa_Af.out _).trans (((cell_far (p := ⟨gbAf, _, none⟩) NBAa_Af.out _).trans (hHeld.2.2.2.1)))))))))))), ((cell_far (p := ⟨gbAf, _, none⟩) NBAa_Af.out _).trans (((cell_far (p := ⟨gbAf, _, none⟩) NBAa_Af.out _).trans (((cell_far (p := ⟨gbAf, _, none⟩) NBAa_Af.out _).trans (((cell_far (p := ⟨gbAf, _, none⟩) NBAa_Af.out _).trans (((cell_far (p := ⟨gbAf, _, none⟩) NBAa_Af.out _).trans (((cell_far (p := ⟨gbAf, _, none⟩) NBAa_Af.out _).trans (hHeld.2.2.2.2.1)))))))))))), ((cell_far (p := ⟨gbAf, _, none⟩) NBAa_Af.out _).trans (((cell_far (p := ⟨gbAf, _, none⟩) NBAa_Af.out _).trans (((cell_far (p := ⟨gbAf, _, none⟩) NBAa_Af.out _).trans (((cell_far (p := ⟨gbAf, _, none⟩) NBAa_Af.out _).trans (((cell_far (p := ⟨gbAf, _, none⟩) NBAa_Af.out _).trans (((cell_far (p := ⟨gbAf, _, none⟩) NBAa_Af.out _).trans (hHeld.2.2.2.2.2))))))))))))⟩ (fun hHeld => ?_)
  clear hK K
  refine pq_ 12 20 HT_ ?_
  refine done_ (done_of HT_.out (by kernel_rfl)) ?_
  try go_wp2
  go_ret
  exact ⟨by first | rfl | (simp [errW_none, errW_some] <;> rfl) | (simp [*, errW_none, errW_some] <;> rfl), by repeat (first | (with_reducible first | exact HB.out | apply below_alloc | apply pw_below_drewN | apply below_drew1 | refine below_set ?_ GEAe.out | refine below_set ?_ GEAd.out | refine below_set ?_ GEAa.out | refine below_set ?_ GEAb.out | refine below_set ?_ GEAc.out | refine below_set ?_ GEAf.out) | exact HB.out)⟩
 rw [if_neg c22] at H
 have c22b0 : (tBq == 5) = false := beq_eq_false_iff_ne.mpr c22
 have c22b1 : (tBq != 5) = true := bne_iff_ne.mpr c22
 by_cases c74 : tAy = tBc
 rotate_left
 ·
  rw [if_neg c74] at H
  have c74b0 : (tAy == tBc) = false := beq_eq_false_iff_ne.mpr c74
  have c74b1 : (tAy != tBc) = true := bne_iff_ne.mpr c74
  exact absurd ((Option.some.inj H).trans HRT.out) (by decide)
 rw [if_pos c74] at H
 have c74b0 : (tAy == tBc) = true := beq_iff_eq.mpr c74
 have c74b1 : (tAy != tBc) = false := bne_eq_false_iff_eq.mpr c74
 clear c74
 obtain rfl := Option.some.inj H
 go_enter Try.func10, Try.ntmps10
 try go_wp2_with (first | ((with_reducible refine gate_dst (N := 5) rfl ?_); refine box_event ?hg (N := 5) ?hd (cs := #[.int .i64 a0_0, .int .i64 a0_1, .int .i64 a0_2, .int .i64 a0_3, .int .i64 a0_4, .slice A0_5 l0_5.length c0_5]) (t := 24) ?hr ?_; (case hd => rfl); (case hg => rfl); (case hr => first | (go_simp; done) | (go_simp; rfl)); intro gbAe hg w75 hbox hb; have BKAe := Aside0.mk (hbox); have GWAe := Aside0.mk ((by rw [hg]; exact (below_size (pH_ HB.out)) : w.heap.size ≤ gbAe)); have GEAe := Aside0.mk ((by rw [hg]; exact (below_size (pH_ HB.out)) : w.heap.size ≤ gbAe)); replace HB := Aside0.mk (below_step (pH_ HB.out) hb); clear hb hbox hg) | ((with_reducible refine gate_dst (N := 6) rfl ?_); refine box_event ?hg (N := 6) ?hd (cs := #[.int .i64 a1_0, .int .i64 a1_1, .int .i64 a1_2, .int .i64 a1_3, .int .i64 a1_4, .slice A1_5 l1_5.length c1_5]) (t := 29) ?hr ?_; (case hd => rfl); (case hg => rfl); (case hr => first | (go_simp; done) | (go_simp; rfl)); intro gbAd hg w76 hbox hb; have BKAd := Aside0.mk (hbox); have GWAd := Aside0.mk ((by rw [hg]; exact (below_size (pH_ HB.out)) : w.heap.size ≤ gbAd)); have GEAd := Aside0.mk ((by rw [hg]; exact (below_size (pH_ HB.out)) : w.heap.size ≤ gbAd)); have NBAe_Ad := Aside0.mk (ltB_ hg BKAe.out); have NBAd_Ae := Aside0.mk (ltB_ hg BKAe.out).symm; replace BKAe := Aside0.mk (blk_below (pB_ BKAe.out) hb); replace HB := Aside0.mk (below_step (pH_ HB.out) hb); clear hb hbox hg) | ((with_reducible refine gate_callee (f := 18) rfl ?_); refine gL_ 21 Try.func18 #[] ?_; (with_reducible refine (plaitinglaw5_known.calls  true _ A6.out).mono ?_); rintro e w77 ⟨rfl, hb⟩; refine ⟨_, rfl, ?_⟩; replace BKAe := Aside0.mk (blk_below (pB_ BKAe.out) hb); replace BKAd := Aside0.mk (blk_below (pB_ BKAd.out) hb); replace HB := Aside0.mk (below_step (pH_ HB.out) hb); (try clear hb); (try clear hb2); (try clear hk); (try clear hi); have hnb78 := NBAe_Ad.out; have hnc78 := NBAd_Ae.out; have hcz79_0 : w77.cell? ⟨gbAe, 0, none⟩ = some (.int .i64 a0_0) := (blk_cell BKAe.out 0).trans rfl; have hcz79_1 : w77.cell? ⟨gbAe, 1, none⟩ = some (.int .i64 a0_1) := (blk_cell BKAe.out 1).trans rfl; have hcz79_2 : w77.cell? ⟨gbAe, 2, none⟩ = some (.int .i64 a0_2) := (blk_cell BKAe.out 2).trans rfl; have hcz79_3 : w77.cell? ⟨gbAe, 3, none⟩ = some (.int .i64 a0_3) := (blk_cell BKAe.out 3).trans rfl; have hcz79_4 : w77.cell? ⟨gbAe, 4, none⟩ = some (.int .i64 a0_4) := (blk_cell BKAe.out 4).trans rfl; have hcz79_5 : w77.cell? ⟨gbAe, 5, none⟩ = some (.slice A0_5 l0_5.length c0_5) := (blk_cell BKAe.out 5).trans rfl; have hfz79_0 := blk_frozen BKAe.out 0; have hfz79_1 := blk_frozen BKAe.out 1; have hfz79_2 := blk_frozen BKAe.out 2; have hfz79_3 := blk_frozen BKAe.out 3; have hfz79_4 := blk_frozen BKAe.out 4; have hfz79_5 := blk_frozen BKAe.out 5) | ((with_reducible refine gate_callee (f := 20) rfl ?_); refine gL_ 24 Try.func20 #[.agg #[.int .i64 a0_0, .int .i64 a0_1, .int .i64 a0_2, .int .i64 a0_3, .int .i64 a0_4, .slice A0_5 l0_5.length c0_5]] ?_; (with_reducible refine (plaitinglaw3_Make.calls k a0_0 a0_1 a0_2 a0_3 a0_4 _ _ l0_5 tAg tAm tAn tAp tAq tAj _ ?side1 ?side2 A8.out).mono ?_); (case side1 => exact cC_ (Kd.C_below HR0_5.out HB.out)); (case side2 => exact HC0_5.out); rintro e w80 ⟨vCh, rfl, ho0, hb⟩; refine ⟨_, rfl, ?_⟩; have HOAh := Aside0.mk (Kd.R_lower ho0 (below_size (pH_ HB.out))); replace BKAe := Aside0.mk (blk_below (pB_ BKAe.out) hb); replace BKAd := Aside0.mk (blk_below (pB_ BKAd.out) hb); replace HB := Aside0.mk (below_step (pH_ HB.out) hb); (try clear hb); (try clear hb2); (try clear hk); (try clear hi); (try clear ho0)) | ((with_reducible refine gate_dst (N := 11) rfl ?_); refine box_event ?hg (N := 11) ?hd (cs := #[.int .i64 0, .int .i64 0, .int .i64 0, .int .i64 0, .int .i64 0, .slice none 0 0]) (t := 24) ?hr ?_; (case hd => rfl); (case hg => rfl); (case hr => first | (go_simp; done) | (go_simp; rfl)); intro gbAa hg w81 hbox hb; have BKAa := Aside0.mk (hbox); have GWAa := Aside0.mk ((by rw [hg]; exact (below_size (pH_ HB.out)) : w.heap.size ≤ gbAa)); have GEAa := Aside0.mk ((by rw [hg]; exact (below_size (pH_ HB.out)) : w.heap.size ≤ gbAa)); have NBAe_Aa := Aside0.mk (ltB_ hg BKAe.out); have NBAa_Ae := Aside0.mk (ltB_ hg BKAe.out).symm; have NBAd_Aa := Aside0.mk (ltB_ hg BKAd.out); have NBAa_Ad := Aside0.mk (ltB_ hg BKAd.out).symm; replace HOAh := Aside0.mk (Kd.R_below (pR_ HOAh.out) hb); replace BKAe := Aside0.mk (blk_below (pB_ BKAe.out) hb); replace BKAd := Aside0.mk (blk_below (pB_ BKAd.out) hb); replace HB := Aside0.mk (below_step (pH_ HB.out) hb); clear hb hbox hg; have hnb82 := NBAa_Ae.out; have hnc82 := NBAe_Aa.out; have hnb83 := NBAa_Ad.out; have hnc83 := NBAd_Aa.out; have hcz84_0 : w81.cell? ⟨gbAa, 0, none⟩ = some (.int .i64 0) := (blk_cell BKAa.out 0).trans rfl; have hcz84_1 : w81.cell? ⟨gbAa, 1, none⟩ = some (.int .i64 0) := (blk_cell BKAa.out 1).trans rfl; have hcz84_2 : w81.cell? ⟨gbAa, 2, none⟩ = some (.int .i64 0) := (blk_cell BKAa.out 2).trans rfl; have hcz84_3 : w81.cell? ⟨gbAa, 3, none⟩ = some (.int .i64 0) := (blk_cell BKAa.out 3).trans rfl; have hcz84_4 : w81.cell? ⟨gbAa, 4, none⟩ = some (.int .i64 0) := (blk_cell BKAa.out 4).trans rfl; have hcz84_5 : w81.cell? ⟨gbAa, 5, none⟩ = some (.slice none 0 0) := (blk_cell BKAa.out 5).trans rfl; have hfz84_0 := blk_frozen BKAa.out 0; have hfz84_1 := blk_frozen BKAa.out 1; have hfz84_2 := blk_frozen BKAa.out 2; have hfz84_3 := blk_frozen BKAa.out 3; have hfz84_4 := blk_frozen BKAa.out 4; have hfz84_5 := blk_frozen BKAa.out 5; obtain ⟨Ao85, co85, eo85⟩ := Kd.R_slice HOAh.out; subst eo85))
 have n0_ : Aside0 (Kd.R (Kd.int .i64) 3 ((((((w81.setCell ⟨gbAa, 0, none⟩ (.int .i64 tAg)).setCell ⟨gbAa, 1, none⟩ (.int .i64 tAm)).setCell ⟨gbAa, 2, none⟩ (.int .i64 tAn)).setCell ⟨gbAa, 3, none⟩ (.int .i64 tAp)).setCell ⟨gbAa, 4, none⟩ (.int .i64 tAq)).setCell ⟨gbAa, 5, none⟩ (.slice Ao85 tAj.length co85)) w.heap.size (fun _ => True) (.slice Ao85 tAj.length co85) tAj) := ⟨by (with_reducible repeat (first | apply Kd.R_alloc | apply Kd.R_drewN | apply Kd.R_drew)); exact Kd.R_mono (Kd.R_far (p := ⟨gbAa, 5, none⟩) (Kd.R_far (p := ⟨gbAa, 4, none⟩) (Kd.R_far (p := ⟨gbAa, 3, none⟩) (Kd.R_far (p := ⟨gbAa, 2, none⟩) (Kd.R_far (p := ⟨gbAa, 1, none⟩) (Kd.R_far (p := ⟨gbAa, 0, none⟩) (Kd.R_types HOAh.out BKAa.out (by decide)) (fun _ hk => hk.2) (.int .i64 tAg)) (fun _ hk => hk.2) (.int .i64 tAm)) (fun _ hk => hk.2) (.int .i64 tAn)) (fun _ hk => hk.2) (.int .i64 tAp)) (fun _ hk => hk.2) (.int .i64 tAq)) (fun _ hk => hk.2) (.slice Ao85 tAj.length co85)) (fun _ hk => trivial)⟩
 have n1_ : Aside0 (((((((w81.setCell ⟨gbAa, 0, none⟩ (.int .i64 tAg)).setCell ⟨gbAa, 1, none⟩ (.int .i64 tAm)).setCell ⟨gbAa, 2, none⟩ (.int .i64 tAn)).setCell ⟨gbAa, 3, none⟩ (.int .i64 tAp)).setCell ⟨gbAa, 4, none⟩ (.int .i64 tAq)).setCell ⟨gbAa, 5, none⟩ (.slice Ao85 tAj.length co85)).heap[gbAe]? = some (.cells #[.int .i64 a0_0, .int .i64 a0_1, .int .i64 a0_2, .int .i64 a0_3, .int .i64 a0_4, .slice A0_5 l0_5.length c0_5] 24 (0, 0))) := ⟨by (with_reducible repeat (first | refine blk_drewN ?_ _ | refine blk_drew ?_ | refine blk_alloc ?_ _)); refine blk_far ?_ NBAe_Aa.out _; refine blk_far ?_ NBAe_Aa.out _; refine blk_far ?_ NBAe_Aa.out _; refine blk_far ?_ NBAe_Aa.out _; refine blk_far ?_ NBAe_Aa.out _; refine blk_far ?_ NBAe_Aa.out _; (with_reducible repeat (first | refine blk_drewN ?_ _ | refine blk_drew ?_ | refine blk_alloc ?_ _)); exact BKAe.out⟩
 have n2_ : Aside0 (((((((w81.setCell ⟨gbAa, 0, none⟩ (.int .i64 tAg)).setCell ⟨gbAa, 1, none⟩ (.int .i64 tAm)).setCell ⟨gbAa, 2, none⟩ (.int .i64 tAn)).setCell ⟨gbAa, 3, none⟩ (.int .i64 tAp)).setCell ⟨gbAa, 4, none⟩ (.int .i64 tAq)).setCell ⟨gbAa, 5, none⟩ (.slice Ao85 tAj.length co85)).heap[gbAd]? = some (.cells #[.int .i64 a1_0, .int .i64 a1_1, .int .i64 a1_2, .int .i64 a1_3, .int .i64 a1_4, .slice A1_5 l1_5.length c1_5] 29 (0, 0))) := ⟨by (with_reducible repeat (first | refine blk_drewN ?_ _ | refine blk_drew ?_ | refine blk_alloc ?_ _)); refine blk_far ?_ NBAd_Aa.out _; refine blk_far ?_ NBAd_Aa.out _; refine blk_far ?_ NBAd_Aa.out _; refine blk_far ?_ NBAd_Aa.out _; refine blk_far ?_ NBAd_Aa.out _; refine blk_far ?_ NBAd_Aa.out _; (with_reducible repeat (first | refine blk_drewN ?_ _ | refine blk_drew ?_ | refine blk_alloc ?_ _)); exact BKAd.out⟩
 have n3_ : Aside0 (((((((w81.setCell ⟨gbAa, 0, none⟩ (.int .i64 tAg)).setCell ⟨gbAa, 1, none⟩ (.int .i64 tAm)).setCell ⟨gbAa, 2, none⟩ (.int .i64 tAn)).setCell ⟨gbAa, 3, none⟩ (.int .i64 tAp)).setCell ⟨gbAa, 4, none⟩ (.int .i64 tAq)).setCell ⟨gbAa, 5, none⟩ (.slice Ao85 tAj.length co85)).heap[gbAa]? = some (.cells #[.int .i64 tAg, .int .i64 tAm, .int .i64 tAn, .int .i64 tAp, .int .i64 tAq, .slice Ao85 tAj.length co85] 24 (0, 0))) := ⟨by (with_reducible repeat (first | refine blk_drewN ?_ _ | refine blk_drew ?_ | refine blk_alloc ?_ _)); refine blk_put (cs := #[.int .i64 tAg, .int .i64 tAm, .int .i64 tAn, .int .i64 tAp, .int .i64 tAq, .slice none 0 0]) ?_ 5 _ rfl; refine blk_put (cs := #[.int .i64 tAg, .int .i64 tAm, .int .i64 tAn, .int .i64 tAp, .int .i64 0, .slice none 0 0]) ?_ 4 _ rfl; refine blk_put (cs := #[.int .i64 tAg, .int .i64 tAm, .int .i64 tAn, .int .i64 0, .int .i64 0, .slice none 0 0]) ?_ 3 _ rfl; refine blk_put (cs := #[.int .i64 tAg, .int .i64 tAm, .int .i64 0, .int .i64 0, .int .i64 0, .slice none 0 0]) ?_ 2 _ rfl; refine blk_put (cs := #[.int .i64 tAg, .int .i64 0, .int .i64 0, .int .i64 0, .int .i64 0, .slice none 0 0]) ?_ 1 _ rfl; refine blk_put (cs := #[.int .i64 0, .int .i64 0, .int .i64 0, .int .i64 0, .int .i64 0, .slice none 0 0]) ?_ 0 _ rfl; (with_reducible repeat (first | refine blk_drewN ?_ _ | refine blk_drew ?_ | refine blk_alloc ?_ _)); exact BKAa.out⟩
 have n4_ : Aside0 (Below w.heap.size w ((((((w81.setCell ⟨gbAa, 0, none⟩ (.int .i64 tAg)).setCell ⟨gbAa, 1, none⟩ (.int .i64 tAm)).setCell ⟨gbAa, 2, none⟩ (.int .i64 tAn)).setCell ⟨gbAa, 3, none⟩ (.int .i64 tAp)).setCell ⟨gbAa, 4, none⟩ (.int .i64 tAq)).setCell ⟨gbAa, 5, none⟩ (.slice Ao85 tAj.length co85))) := ⟨by repeat (first | (with_reducible first | exact HB.out | apply below_alloc | apply pw_below_drewN | apply below_drew1 | refine below_set ?_ GEAe.out | refine below_set ?_ GEAd.out | refine below_set ?_ GEAa.out) | exact HB.out)⟩
 (try clear HOAh)
 (try clear BKAe)
 (try clear BKAd)
 (try clear BKAa)
 (try clear HB)
 generalize ((((((w81.setCell ⟨gbAa, 0, none⟩ (.int .i64 tAg)).setCell ⟨gbAa, 1, none⟩ (.int .i64 tAm)).setCell ⟨gbAa, 2, none⟩ (.int .i64 tAn)).setCell ⟨gbAa, 3, none⟩ (.int .i64 tAp)).setCell ⟨gbAa, 4, none⟩ (.int .i64 tAq)).setCell ⟨gbAa, 5, none⟩ (.slice Ao85 tAj.length co85)) = w86 at n0_ n1_ n2_ n3_ n4_ ⊢
 have HOAh := n0_
 have BKAe := n1_
 have BKAd := n2_
 have BKAa := n3_
 have HB := n4_
 clear n0_ n1_ n2_ n3_ n4_
 replace HOAh := Aside0.mk (Kd.R_drew HOAh.out)
 replace BKAe := Aside0.mk (blk_drew BKAe.out)
 replace BKAd := Aside0.mk (blk_drew BKAd.out)
 replace BKAa := Aside0.mk (blk_drew BKAa.out)
 replace HB := Aside0.mk (below_drew1 HB.out)
 refine start_ (n := 7) (S := fun w' => w'.cell? ⟨gbAa, 0, none⟩ = some (.int .i64 tAg) ∧ w'.cell? ⟨gbAa, 1, none⟩ = some (.int .i64 tAm) ∧ w'.cell? ⟨gbAa, 2, none⟩ = some (.int .i64 tAn) ∧ w'.cell? ⟨gbAa, 3, none⟩ = some (.int .i64 tAp) ∧ w'.cell? ⟨gbAa, 4, none⟩ = some (.int .i64 tAq) ∧ w'.cell? ⟨gbAa, 5, none⟩ = some (.slice Ao85 tAj.length co85) ∧ w'.cell? ⟨gbAd, 0, none⟩ = some (.int .i64 a1_0) ∧ w'.cell? ⟨gbAd, 1, none⟩ = some (.int .i64 a1_1) ∧ w'.cell? ⟨gbAd, 2, none⟩ = some (.int .i64 a1_2) ∧ w'.cell? ⟨gbAd, 3, none⟩ = some (.int .i64 a1_3) ∧ w'.cell? ⟨gbAd, 4, none⟩ = some (.int .i64 a1_4) ∧ w'.cell? ⟨gbAd, 5, none⟩ = some (.slice A1_5 l1_5.length c1_5)) (ds := []) #[false, false, false, false, false, false, false] (by kernel_rfl) rfl rfl ⟨(blk_cell BKAa.out 0).trans rfl, (blk_cell BKAa.out 1).trans rfl, (blk_cell BKAa.out 2).trans rfl, (blk_cell BKAa.out 3).trans rfl, (blk_cell BKAa.out 4).trans rfl, (blk_cell BKAa.out 5).trans rfl, (blk_cell BKAd.out 0).trans rfl, (blk_cell BKAd.out 1).trans rfl, (blk_cell BKAd.out 2).trans rfl, (blk_cell BKAd.out 3).trans rfl, (blk_cell BKAd.out 4).trans rfl, (blk_cell BKAd.out 5).trans rfl⟩ (fun hHeld => ?_)
 generalize w86.drew = w87 at HOAh BKAe BKAd BKAa HB hHeld ⊢
 refine pure_ (i := 3) (N := some 28) (v := ?_) (a' := ?_) #[false, false, false, true, false, false, false] rfl rfl (by kernel_rfl) (fun _ _ _ h => h) (Or.inl ⟨by rfl, ?_⟩) ?_ ?_
 rotate_left
 ·
  intro w'
  go_simp
  with_reducible rfl
 rotate_left
 ·
  simp only [Act.put, List.setIfInBounds_toArray, List.set_cons_zero, List.set_cons_succ, i64_w, i32_w]
  rfl
 refine take_ (i := 0) (N := some 25) (v := ?_) (a' := ?_) #[true, false, false, true, false, false, false] rfl rfl (by kernel_rfl) (fun _ _ _ h => h) (Or.inl ⟨by rfl, ?_⟩) hHeld ?_ ?_
 rotate_left
 ·
  rintro w' ⟨s0, s1, s2, s3, s4, s5, s6, s7, s8, s9, s10, s11⟩
  go_simp
  with_reducible rfl
 rotate_left
 ·
  simp only [Act.put, List.setIfInBounds_toArray, List.set_cons_zero, List.set_cons_succ, i64_w, i32_w]
  rfl
 refine take_ (i := 1) (N := some 26) (v := ?_) (a' := ?_) #[true, true, false, true, false, false, false] rfl rfl (by kernel_rfl) (fun _ _ _ h => h) (Or.inl ⟨by rfl, ?_⟩) hHeld ?_ ?_
 rotate_left
 ·
  rintro w' ⟨s0, s1, s2, s3, s4, s5, s6, s7, s8, s9, s10, s11⟩
  go_simp
  with_reducible rfl
 rotate_left
 ·
  simp only [Act.put, List.setIfInBounds_toArray, List.set_cons_zero, List.set_cons_succ, i64_w, i32_w]
  rfl
 refine take_ (i := 2) (N := some 27) (v := ?_) (a' := ?_) #[true, true, true, true, false, false, false] rfl rfl (by kernel_rfl) (fun _ _ _ h => h) (Or.inl ⟨by rfl, ?_⟩) hHeld ?_ ?_
 rotate_left
 ·
  rintro w' ⟨s0, s1, s2, s3, s4, s5, s6, s7, s8, s9, s10, s11⟩
  go_simp
  with_reducible rfl
 rotate_left
 ·
  simp only [Act.put, List.setIfInBounds_toArray, List.set_cons_zero, List.set_cons_succ, i64_w, i32_w]
  rfl
 refine one_ (i := 4) (N := some 29) #[true, true, true, true, true, false, false] rfl rfl (by kernel_rfl) (by decide) (fun K hK => ?_)
 refine gs_ Try.func21 #[.agg #[.int .i64 tAg, .int .i64 tAm, .int .i64 tAn, .int .i64 tAp, .int .i64 tAq, .slice Ao85 tAj.length co85], .agg #[.int .i64 a1_0, .int .i64 a1_1, .int .i64 a1_2, .int .i64 a1_3, .int .i64 a1_4, .slice A1_5 l1_5.length c1_5], .slice A2 l2.length c2] ?_
 with_reducible refine (plaitinglaw5_Make.calls k tAg tAm tAn tAp tAq _ _ tAj a1_0 a1_1 a1_2 a1_3 a1_4 _ _ l1_5 _ _ l2 tBk tCc tCd tCe tCf tAw _ ?side1 ?side2 ?side3 ?side4 ?side5 ?side6 A9.out).mono ?_
 (case side1 => exact cC_ (Kd.R_reads' HOAh.out).2.2)
 (case side2 => exact (Kd.R_reads' HOAh.out).2.1)
 (case side3 => exact cC_ (Kd.C_below HR1_5.out HB.out))
 (case side4 => exact HC1_5.out)
 (case side5 => exact cC_ (Kd.C_below HR2.out HB.out))
 (case side6 => exact HC2.out)
 rintro e w88 ⟨vCi, rfl, ho0, hb⟩
 refine ⟨_, rfl, ?_⟩
 have HOAi := Aside0.mk (Kd.R_lower ho0 (below_size (pH_ HB.out)))
 replace HOAh := Aside0.mk (Kd.R_below (pR_ HOAh.out) hb)
 replace BKAe := Aside0.mk (blk_below (pB_ BKAe.out) hb)
 replace BKAd := Aside0.mk (blk_below (pB_ BKAd.out) hb)
 replace BKAa := Aside0.mk (blk_below (pB_ BKAa.out) hb)
 replace HB := Aside0.mk (below_step (pH_ HB.out) hb)
 (try clear hb)
 (try clear hb2)
 (try clear hk)
 (try clear hi)
 (try clear ho0)
 obtain ⟨Ao89, co89, eo89⟩ := Kd.R_slice HOAi.out
 (first | subst eo89 | (injection eo89 with f1_ f2_ f3_; have f4_ := f1_.symm; have f5_ := f3_.symm; clear f1_ f2_ f3_; subst f4_; subst f5_))
 refine hK.out _ _ ⟨(blk_cell BKAa.out 0).trans rfl, (blk_cell BKAa.out 1).trans rfl, (blk_cell BKAa.out 2).trans rfl, (blk_cell BKAa.out 3).trans rfl, (blk_cell BKAa.out 4).trans rfl, (blk_cell BKAa.out 5).trans rfl, (blk_cell BKAd.out 0).trans rfl, (blk_cell BKAd.out 1).trans rfl, (blk_cell BKAd.out 2).trans rfl, (blk_cell BKAd.out 3).trans rfl, (blk_cell BKAd.out 4).trans rfl, (blk_cell BKAd.out 5).trans rfl⟩ (fun hHeld => ?_)
 clear hK K
 refine nq_ 29 ?_
 refine one_ (i := 5) (N := some 30) #[true, true, true, true, true, true, false] rfl rfl (by kernel_rfl) (by decide) (fun K hK => ?_)
 refine gs_ Try.func26 #[.agg #[.int .i64 tAg, .int .i64 tAm, .int .i64 tAn, .int .i64 tAp, .int .i64 tAq, .slice Ao85 tAj.length co85], .agg #[.int .i64 tBk, .int .i64 tCc, .int .i64 tCd, .int .i64 tCe, .int .i64 tCf, .slice Ao89 tAw.length co89]] ?_
 with_reducible refine (frame_Text.calls tAg tAm tAn tAp tAq _ _ tAj tBk tCc tCd tCe tCf _ _ tAw tAr _ ?side1 ?side2 ?side3 ?side4 A10.out).mono ?_
 (case side1 => exact cC_ (Kd.R_reads' HOAh.out).2.2)
 (case side2 => exact (Kd.R_reads' HOAh.out).2.1)
 (case side3 => exact cC_ (Kd.R_reads' HOAi.out).2.2)
 (case side4 => exact (Kd.R_reads' HOAi.out).2.1)
 rintro e w90 ⟨rfl, hb⟩
 refine ⟨_, rfl, ?_⟩
 replace HOAh := Aside0.mk (Kd.R_below (pR_ HOAh.out) hb)
 replace HOAi := Aside0.mk (Kd.R_below (pR_ HOAi.out) hb)
 replace BKAe := Aside0.mk (blk_below (pB_ BKAe.out) hb)
 replace BKAd := Aside0.mk (blk_below (pB_ BKAd.out) hb)
 replace BKAa := Aside0.mk (blk_below (pB_ BKAa.out) hb)
 replace HB := Aside0.mk (below_step (pH_ HB.out) hb)
 (try clear hb)
 (try clear hb2)
 (try clear hk)
 (try clear hi)
 refine hK.out _ _ ⟨(blk_cell BKAa.out 0).trans rfl, (blk_cell BKAa.out 1).trans rfl, (blk_cell BKAa.out 2).trans rfl, (blk_cell BKAa.out 3).trans rfl, (blk_cell BKAa.out 4).trans rfl, (blk_cell BKAa.out 5).trans rfl, (blk_cell BKAd.out 0).trans rfl, (blk_cell BKAd.out 1).trans rfl, (blk_cell BKAd.out 2).trans rfl, (blk_cell BKAd.out 3).trans rfl, (blk_cell BKAd.out 4).trans rfl, (blk_cell BKAd.out 5).trans rfl⟩ (fun hHeld => ?_)
 clear hK K
 refine nq_ 30 ?_
 refine pure_ (i := 6) (N := some 12) (v := ?_) (a' := ?_) #[true, true, true, true, true, true, true] rfl rfl (by kernel_rfl) (fun _ _ _ h => h) (Or.inl ⟨by rfl, ?_⟩) ?_ ?_
 rotate_left
 ·
  intro w'
  go_simp
  with_reducible rfl
 rotate_left
 ·
  simp only [Act.put, List.setIfInBounds_toArray, List.set_cons_zero, List.set_cons_succ, i64_w, i32_w]
  rfl
 refine done_ (by kernel_rfl) ?_
 try go_wp2_with (first | ((with_reducible refine gate_callee (f := 24) rfl ?_); refine gL_ 35 Try.func24 #[.int .i64 a3, .int .i64 (wrap64 ((tAr.size : Int) - 1))] ?_; (with_reducible refine (plaitinglaw5_within.calls a3 (wrap64 ((tAr.size : Int) - 1)) tAy _ A11.out).mono ?_); rintro e w' ⟨rfl, ⟨nd, rfl⟩⟩; refine ⟨_, rfl, ?_⟩; (try (rw [drewN_self w90]; generalize hq_ : World.drewN w90 _ = w90; have n0_ : Aside0 (Kd.R (Kd.int .i64) 3 w90 w.heap.size (fun _ => True) (.slice Ao85 tAj.length co85) tAj) := ⟨by rw [← hq_]; exact (pR_ HOAh.out)⟩; have n1_ : Aside0 (Kd.R k26 26 w90 w.heap.size (fun _ => True) (.slice Ao89 tAw.length co89) tAw) := ⟨by rw [← hq_]; exact (pR_ HOAi.out)⟩; have n2_ : Aside0 (w90.heap[gbAe]? = some (.cells #[.int .i64 a0_0, .int .i64 a0_1, .int .i64 a0_2, .int .i64 a0_3, .int .i64 a0_4, .slice A0_5 l0_5.length c0_5] 24 (0, 0))) := ⟨by rw [← hq_]; exact (pB_ BKAe.out)⟩; have n3_ : Aside0 (w90.heap[gbAd]? = some (.cells #[.int .i64 a1_0, .int .i64 a1_1, .int .i64 a1_2, .int .i64 a1_3, .int .i64 a1_4, .slice A1_5 l1_5.length c1_5] 29 (0, 0))) := ⟨by rw [← hq_]; exact (pB_ BKAd.out)⟩; have n4_ : Aside0 (w90.heap[gbAa]? = some (.cells #[.int .i64 tAg, .int .i64 tAm, .int .i64 tAn, .int .i64 tAp, .int .i64 tAq, .slice Ao85 tAj.length co85] 24 (0, 0))) := ⟨by rw [← hq_]; exact (pB_ BKAa.out)⟩; have n5_ : Aside0 (Below w.heap.size w w90) := ⟨by rw [← hq_]; exact (pH_ HB.out)⟩; clear HOAh HOAi BKAe BKAd BKAa HB hq_; have HOAh := n0_; have HOAi := n1_; have BKAe := n2_; have BKAd := n3_; have BKAa := n4_; have HB := n5_; clear n0_ n1_ n2_ n3_ n4_ n5_))) | ((with_reducible refine gate_callee (f := 24) rfl ?_); refine gL_ 40 Try.func24 #[.int .i64 a4, .int .i64 (wrap64 ((tAr.size : Int) - 1))] ?_; (with_reducible refine (plaitinglaw5_within.calls a4 (wrap64 ((tAr.size : Int) - 1)) tBc _ A12.out).mono ?_); rintro e w' ⟨rfl, ⟨nd, rfl⟩⟩; refine ⟨_, rfl, ?_⟩; (try (rw [drewN_self w90]; generalize hq_ : World.drewN w90 _ = w90; have n0_ : Aside0 (Kd.R (Kd.int .i64) 3 w90 w.heap.size (fun _ => True) (.slice Ao85 tAj.length co85) tAj) := ⟨by rw [← hq_]; exact (pR_ HOAh.out)⟩; have n1_ : Aside0 (Kd.R k26 26 w90 w.heap.size (fun _ => True) (.slice Ao89 tAw.length co89) tAw) := ⟨by rw [← hq_]; exact (pR_ HOAi.out)⟩; have n2_ : Aside0 (w90.heap[gbAe]? = some (.cells #[.int .i64 a0_0, .int .i64 a0_1, .int .i64 a0_2, .int .i64 a0_3, .int .i64 a0_4, .slice A0_5 l0_5.length c0_5] 24 (0, 0))) := ⟨by rw [← hq_]; exact (pB_ BKAe.out)⟩; have n3_ : Aside0 (w90.heap[gbAd]? = some (.cells #[.int .i64 a1_0, .int .i64 a1_1, .int .i64 a1_2, .int .i64 a1_3, .int .i64 a1_4, .slice A1_5 l1_5.length c1_5] 29 (0, 0))) := ⟨by rw [← hq_]; exact (pB_ BKAd.out)⟩; have n4_ : Aside0 (w90.heap[gbAa]? = some (.cells #[.int .i64 tAg, .int .i64 tAm, .int .i64 tAn, .int .i64 tAp, .int .i64 tAq, .slice Ao85 tAj.length co85] 24 (0, 0))) := ⟨by rw [← hq_]; exact (pB_ BKAa.out)⟩; have n5_ : Aside0 (Below w.heap.size w w90) := ⟨by rw [← hq_]; exact (pH_ HB.out)⟩; clear HOAh HOAi BKAe BKAd BKAa HB hq_; have HOAh := n0_; have HOAi := n1_; have BKAe := n2_; have BKAd := n3_; have BKAa := n4_; have HB := n5_; clear n0_ n1_ n2_ n3_ n4_ n5_))))
 replace HOAh := Aside0.mk (Kd.R_drew HOAh.out)
 replace HOAi := Aside0.mk (Kd.R_drew HOAi.out)
 replace BKAe := Aside0.mk (blk_drew BKAe.out)
 replace BKAd := Aside0.mk (blk_drew BKAd.out)
 replace BKAa := Aside0.mk (blk_drew BKAa.out)
 replace HB := Aside0.mk (below_drew1 HB.out)
 refine start_ (n := 11) (S := fun w' => w'.cell? ⟨gbAa, 0, none⟩ = some (.int .i64 tAg) ∧ w'.cell? ⟨gbAa, 1, none⟩ = some (.int .i64 tAm) ∧ w'.cell? ⟨gbAa, 2, none⟩ = some (.int .i64 tAn) ∧ w'.cell? ⟨gbAa, 3, none⟩ = some (.int .i64 tAp) ∧ w'.cell? ⟨gbAa, 4, none⟩ = some (.int .i64 tAq) ∧ w'.cell? ⟨gbAa, 5, none⟩ = some (.slice Ao85 tAj.length co85)) (ds := []) #[false, false, false, false, false, false, false, false, false, false, false] (by kernel_rfl) rfl rfl ⟨(blk_cell BKAa.out 0).trans rfl, (blk_cell BKAa.out 1).trans rfl, (blk_cell BKAa.out 2).trans rfl, (blk_cell BKAa.out 3).trans rfl, (blk_cell BKAa.out 4).trans rfl, (blk_cell BKAa.out 5).trans rfl⟩ (fun hHeld => ?_); refine with_tabW plaitinglaw5_FrameTurn.tab6 plaitinglaw5_FrameTurn.bits6 (fun HT_ HW_ => ?_)
 generalize w90.drew = w91 at HOAh HOAi BKAe BKAd BKAa HB hHeld ⊢
 refine pq_ 1 43 HT_ ?_
 refine pq_ 2 44 HT_ ?_
 refine tq_ 0 42 HT_ HW_ hHeld ?_
 refine join_ (σ := Value × Nat) 2 #[true, true, true, true, true, true, true, true, true, false, false] (fun s_ => [(45, .string tBp), (46, .tuple #[.agg #[.int .i64 tAv, .int .i64 tBa, .int .i64 tBd, .int .i64 tBf, .int .i64 tBh, s_.1], .int .i64 tBr]), (15, .pointer (some ⟨s_.2, 0, none⟩)), (41, .tuple #[.agg #[.int .i64 tAv, .int .i64 tBa, .int .i64 tBd, .int .i64 tBf, .int .i64 tBh, s_.1], .int .i64 tBr]), (47, .agg #[.int .i64 tAv, .int .i64 tBa, .int .i64 tBd, .int .i64 tBf, .int .i64 tBh, s_.1]), (48, .int .i64 tBr)]) (fun s_ w' => (w'.cell? ⟨gbAa, 0, none⟩ = some (.int .i64 tAg) ∧ w'.cell? ⟨gbAa, 1, none⟩ = some (.int .i64 tAm) ∧ w'.cell? ⟨gbAa, 2, none⟩ = some (.int .i64 tAn) ∧ w'.cell? ⟨gbAa, 3, none⟩ = some (.int .i64 tAp) ∧ w'.cell? ⟨gbAa, 4, none⟩ = some (.int .i64 tAq) ∧ w'.cell? ⟨gbAa, 5, none⟩ = some (.slice Ao85 tAj.length co85)) ∧ (Kd.R (Kd.int .i64) 3 w' w.heap.size (fun _ => True) (.slice Ao85 tAj.length co85) tAj) ∧ (Kd.R k26 26 w' w.heap.size (fun k_ => some k_ ≠ (s_.1 : Value).ownBlock) (.slice Ao89 tAw.length co89) tAw) ∧ (Kd.R k26 26 w' w.heap.size (fun k_ => some k_ ≠ (.slice Ao89 tAw.length co89 : Value).ownBlock) s_.1 tAt) ∧ (w'.heap[gbAe]? = some (.cells #[.int .i64 a0_0, .int .i64 a0_1, .int .i64 a0_2, .int .i64 a0_3, .int .i64 a0_4, .slice A0_5 l0_5.length c0_5] 24 (0, 0))) ∧ (w'.heap[gbAd]? = some (.cells #[.int .i64 a1_0, .int .i64 a1_1, .int .i64 a1_2, .int .i64 a1_3, .int .i64 a1_4, .slice A1_5 l1_5.length c1_5] 29 (0, 0))) ∧ (w'.heap[gbAa]? = some (.cells #[.int .i64 tAg, .int .i64 tAm, .int .i64 tAn, .int .i64 tAp, .int .i64 tAq, .slice Ao85 tAj.length co85] 24 (0, 0))) ∧ (w'.heap[s_.2]? = some (.cells #[.int .i64 0, .int .i64 0, .int .i64 0, .int .i64 0, .int .i64 0, .slice none 0 0] 29 (0, 0))) ∧ (w.heap.size ≤ s_.2) ∧ (w.heap.size ≤ s_.2) ∧ (gbAe ≠ s_.2) ∧ (s_.2 ≠ gbAe) ∧ (gbAd ≠ s_.2) ∧ (s_.2 ≠ gbAd) ∧ (gbAa ≠ s_.2) ∧ (s_.2 ≠ gbAa) ∧ (Below w.heap.size w w')) ?_ ?_
 rotate_left
 ·
  intro hCont
  refine two_ (i := 3) (j := 8) (Ni := some 45) (Nj := some 15) #[true, true, true, true, false, false, false, false, false, false, false] #[true, true, true, false, false, false, false, false, true, false, false] rfl rfl rfl rfl (two_of HT_.out (by kernel_rfl)) (by decide) (by decide) (fun K hK => ?_) (fun K hK => ?_)
  ·
   skip
   refine gs_ Try.func32 #[.string tAr, .int .i64 tAy] ?_
   with_reducible refine (plaitingref1_Turn.calls k tAr tAy tBp _ A13.out).mono ?_
   rintro e w' ⟨rfl, ⟨nd, rfl⟩⟩
   refine ⟨_, rfl, ?_⟩
   refine hK.out _ _ ⟨(blk_cell BKAa.out 0).trans rfl, (blk_cell BKAa.out 1).trans rfl, (blk_cell BKAa.out 2).trans rfl, (blk_cell BKAa.out 3).trans rfl, (blk_cell BKAa.out 4).trans rfl, (blk_cell BKAa.out 5).trans rfl⟩ (fun hHeld => ?_)
   clear hK K
   refine nq_ 45 ?_
   refine two_ (i := 4) (j := 8) (Ni := some 46) (Nj := some 15) #[true, true, true, true, true, false, false, false, false, false, false] #[true, true, true, true, false, false, false, false, true, false, false] rfl rfl rfl rfl (two_of HT_.out (by kernel_rfl)) (by decide) (by decide) (fun K hK => ?_) (fun K hK => ?_)
   ·
    skip
    refine gs_ Try.func35 #[.agg #[.int .i64 tAg, .int .i64 tAm, .int .i64 tAn, .int .i64 tAp, .int .i64 tAq, .slice Ao85 tAj.length co85], .string tBp] ?_
    with_reducible refine (frame_Read.calls tAg tAm tAn tAp tAq _ _ tAj tBp tAv tBa tBd tBf tBh tAt tBr _ ?side1 ?side2 A14.out).mono ?_
    (case side1 => exact cC_ (Kd.R_reads' HOAh.out).2.2)
    (case side2 => exact (Kd.R_reads' HOAh.out).2.1)
    rintro e w92 ⟨vBw, rfl, ho0, hb⟩
    refine ⟨_, rfl, ?_⟩
    have HOAk := Aside0.mk (Kd.R_lower (Kd.R_new' ho0 (Kd.R_lt (pR_ HOAi.out))) (below_size (pH_ HB.out)))
    replace HOAh := Aside0.mk (Kd.R_below (pR_ HOAh.out) hb)
    replace HOAi := Aside0.mk (Kd.R_elder' (pR_ HOAi.out) (Kd.R_base ho0) hb)
    replace BKAe := Aside0.mk (blk_below (pB_ BKAe.out) hb)
    replace BKAd := Aside0.mk (blk_below (pB_ BKAd.out) hb)
    replace BKAa := Aside0.mk (blk_below (pB_ BKAa.out) hb)
    replace HB := Aside0.mk (below_step (pH_ HB.out) hb)
    (try clear hb)
    (try clear hb2)
    (try clear hk)
    (try clear hi)
    (try clear ho0)
    refine hK.out _ _ ⟨(blk_cell BKAa.out 0).trans rfl, (blk_cell BKAa.out 1).trans rfl, (blk_cell BKAa.out 2).trans rfl, (blk_cell BKAa.out 3).trans rfl, (blk_cell BKAa.out 4).trans rfl, (blk_cell BKAa.out 5).trans rfl⟩ (fun hHeld => ?_)
    clear hK K
    refine nq_ 46 ?_
    refine pq_ 5 41 HT_ ?_
    refine pq_ 6 47 HT_ ?_
    refine pq_ 7 48 HT_ ?_
    refine oq_ 8 15 HT_ (fun K hK => ?_)
    refine box_step ?hg (N := 15) ?hd (cs := #[.int .i64 0, .int .i64 0, .int .i64 0, .int .i64 0, .int .i64 0, .slice none 0 0]) (t := 29) ?hr ?_; (case hd => rfl); (case hg => rfl); (case hr => first | (go_simp; done) | (go_simp; rfl))
    intro gbAb hg w93 hbox hb
    have BKAb := Aside0.mk (hbox)
    have GWAb := Aside0.mk ((by rw [hg]; exact (below_size (pH_ HB.out)) : w.heap.size ≤ gbAb))
    have GEAb := Aside0.mk ((by rw [hg]; exact (below_size (pH_ HB.out)) : w.heap.size ≤ gbAb))
    have NBAe_Ab := Aside0.mk (ltB_ hg BKAe.out)
    have NBAb_Ae := Aside0.mk (ltB_ hg BKAe.out).symm
    have NBAd_Ab := Aside0.mk (ltB_ hg BKAd.out)
    have NBAb_Ad := Aside0.mk (ltB_ hg BKAd.out).symm
    have NBAa_Ab := Aside0.mk (ltB_ hg BKAa.out)
    have NBAb_Aa := Aside0.mk (ltB_ hg BKAa.out).symm
    replace HOAh := Aside0.mk (Kd.R_below (pR_ HOAh.out) hb)
    replace HOAi := Aside0.mk (Kd.R_below (pR_ HOAi.out) hb)
    replace HOAk := Aside0.mk (Kd.R_below (pR_ HOAk.out) hb)
    replace BKAe := Aside0.mk (blk_below (pB_ BKAe.out) hb)
    replace BKAd := Aside0.mk (blk_below (pB_ BKAd.out) hb)
    replace BKAa := Aside0.mk (blk_below (pB_ BKAa.out) hb)
    replace HB := Aside0.mk (below_step (pH_ HB.out) hb)
    clear hb hbox hg
    refine hK.out _ _ ⟨(blk_cell BKAa.out 0).trans rfl, (blk_cell BKAa.out 1).trans rfl, (blk_cell BKAa.out 2).trans rfl, (blk_cell BKAa.out 3).trans rfl, (blk_cell BKAa.out 4).trans rfl, (blk_cell BKAa.out 5).trans rfl⟩ (fun hHeld => ?_)
    clear hK K
    refine nq_ 15 ?_
    exact norm_ (by simp only [putAll, Act.put, List.setIfInBounds_toArray, List.set_cons_zero, List.set_cons_succ]) (hCont (vBw, gbAb) _ ⟨hHeld, (pR_ HOAh.out), (by (with_reducible repeat (first | apply Kd.R_alloc | apply Kd.R_drewN | apply Kd.R_drew)); exact Kd.R_mono HOAi.out (fun _ hk => hk.2)), (by (with_reducible repeat (first | apply Kd.R_alloc | apply Kd.R_drewN | apply Kd.R_drew)); exact Kd.R_mono HOAk.out (fun _ hk => hk.2)), (pB_ BKAe.out), (pB_ BKAd.out), (pB_ BKAa.out), (pB_ BKAb.out), GWAb.out, GEAb.out, NBAe_Ab.out, NBAb_Ae.out, NBAd_Ab.out, NBAb_Ad.out, NBAa_Ab.out, NBAb_Aa.out, (pH_ HB.out)⟩)
   skip
   refine box_step ?hg (N := 15) ?hd (cs := #[.int .i64 0, .int .i64 0, .int .i64 0, .int .i64 0, .int .i64 0, .slice none 0 0]) (t := 29) ?hr ?_; (case hd => rfl); (case hg => rfl); (case hr => first | (go_simp; done) | (go_simp; rfl))
   intro gbAb hg w92 hbox hb
   have BKAb := Aside0.mk (hbox)
   have GWAb := Aside0.mk ((by rw [hg]; exact (below_size (pH_ HB.out)) : w.heap.size ≤ gbAb))
   have GEAb := Aside0.mk ((by rw [hg]; exact (below_size (pH_ HB.out)) : w.heap.size ≤ gbAb))
   have NBAe_Ab := Aside0.mk (ltB_ hg BKAe.out)
   have NBAb_Ae := Aside0.mk (ltB_ hg BKAe.out).symm
   have NBAd_Ab := Aside0.mk (ltB_ hg BKAd.out)
   have NBAb_Ad := Aside0.mk (ltB_ hg BKAd.out).symm
   have NBAa_Ab := Aside0.mk (ltB_ hg BKAa.out)
   have NBAb_Aa := Aside0.mk (ltB_ hg BKAa.out).symm
   replace HOAh := Aside0.mk (Kd.R_below (pR_ HOAh.out) hb)
   replace HOAi := Aside0.mk (Kd.R_below (pR_ HOAi.out) hb)
   replace BKAe := Aside0.mk (blk_below (pB_ BKAe.out) hb)
   replace BKAd := Aside0.mk (blk_below (pB_ BKAd.out) hb)
   replace BKAa := Aside0.mk (blk_below (pB_ BKAa.out) hb)
   replace HB := Aside0.mk (below_step (pH_ HB.out) hb)
   clear hb hbox hg
   refine hK.out _ _ ⟨(blk_cell BKAa.out 0).trans rfl, (blk_cell BKAa.out 1).trans rfl, (blk_cell BKAa.out 2).trans rfl, (blk_cell BKAa.out 3).trans rfl, (blk_cell BKAa.out 4).trans rfl, (blk_cell BKAa.out 5).trans rfl⟩ (fun hHeld => ?_)
   clear hK K
   refine nq_ 15 ?_
   refine oq_ 4 46 HT_ (fun K hK => ?_)
   refine gs_ Try.func35 #[.agg #[.int .i64 tAg, .int .i64 tAm, .int .i64 tAn, .int .i64 tAp, .int .i64 tAq, .slice Ao85 tAj.length co85], .string tBp] ?_
   with_reducible refine (frame_Read.calls tAg tAm tAn tAp tAq _ _ tAj tBp tAv tBa tBd tBf tBh tAt tBr _ ?side1 ?side2 A14.out).mono ?_
   (case side1 => exact cC_ (Kd.R_reads' HOAh.out).2.2)
   (case side2 => exact (Kd.R_reads' HOAh.out).2.1)
   rintro e w93 ⟨vBw, rfl, ho0, hb⟩
   refine ⟨_, rfl, ?_⟩
   have HOAk := Aside0.mk (Kd.R_lower (Kd.R_new' ho0 (Kd.R_lt (pR_ HOAi.out))) (below_size (pH_ HB.out)))
   replace HOAh := Aside0.mk (Kd.R_below (pR_ HOAh.out) hb)
   replace HOAi := Aside0.mk (Kd.R_elder' (pR_ HOAi.out) (Kd.R_base ho0) hb)
   replace BKAe := Aside0.mk (blk_below (pB_ BKAe.out) hb)
   replace BKAd := Aside0.mk (blk_below (pB_ BKAd.out) hb)
   replace BKAa := Aside0.mk (blk_below (pB_ BKAa.out) hb)
   replace BKAb := Aside0.mk (blk_below (pB_ BKAb.out) hb)
   replace HB := Aside0.mk (below_step (pH_ HB.out) hb)
   (try clear hb)
   (try clear hb2)
   (try clear hk)
   (try clear hi)
   (try clear ho0)
   refine hK.out _ _ ⟨(blk_cell BKAa.out 0).trans rfl, (blk_cell BKAa.out 1).trans rfl, (blk_cell BKAa.out 2).trans rfl, (blk_cell BKAa.out 3).trans rfl, (blk_cell BKAa.out 4).trans rfl, (blk_cell BKAa.out 5).trans rfl⟩ (fun hHeld => ?_)
   clear hK K
   refine nq_ 46 ?_
   refine pq_ 5 41 HT_ ?_
   refine pq_ 6 47 HT_ ?_
   refine pq_ 7 48 HT_ ?_
   exact norm_ (by simp only [putAll, Act.put, List.setIfInBounds_toArray, List.set_cons_zero, List.set_cons_succ]) (hCont (vBw, gbAb) _ ⟨hHeld, (pR_ HOAh.out), (by (with_reducible repeat (first | apply Kd.R_alloc | apply Kd.R_drewN | apply Kd.R_drew)); exact Kd.R_mono HOAi.out (fun _ hk => hk.2)), (by (with_reducible repeat (first | apply Kd.R_alloc | apply Kd.R_drewN | apply Kd.R_drew)); exact Kd.R_mono HOAk.out (fun _ hk => hk.2)), (pB_ BKAe.out), (pB_ BKAd.out), (pB_ BKAa.out), (pB_ BKAb.out), GWAb.out, GEAb.out, NBAe_Ab.out, NBAb_Ae.out, NBAd_Ab.out, NBAb_Ad.out, NBAa_Ab.out, NBAb_Aa.out, (pH_ HB.out)⟩)
  skip
  refine box_step ?hg (N := 15) ?hd (cs := #[.int .i64 0, .int .i64 0, .int .i64 0, .int .i64 0, .int .i64 0, .slice none 0 0]) (t := 29) ?hr ?_; (case hd => rfl); (case hg => rfl); (case hr => first | (go_simp; done) | (go_simp; rfl))
  intro gbAb hg w92 hbox hb
  have BKAb := Aside0.mk (hbox)
  have GWAb := Aside0.mk ((by rw [hg]; exact (below_size (pH_ HB.out)) : w.heap.size ≤ gbAb))
  have GEAb := Aside0.mk ((by rw [hg]; exact (below_size (pH_ HB.out)) : w.heap.size ≤ gbAb))
  have NBAe_Ab := Aside0.mk (ltB_ hg BKAe.out)
  have NBAb_Ae := Aside0.mk (ltB_ hg BKAe.out).symm
  have NBAd_Ab := Aside0.mk (ltB_ hg BKAd.out)
  have NBAb_Ad := Aside0.mk (ltB_ hg BKAd.out).symm
  have NBAa_Ab := Aside0.mk (ltB_ hg BKAa.out)
  have NBAb_Aa := Aside0.mk (ltB_ hg BKAa.out).symm
  replace HOAh := Aside0.mk (Kd.R_below (pR_ HOAh.out) hb)
  replace HOAi := Aside0.mk (Kd.R_below (pR_ HOAi.out) hb)
  replace BKAe := Aside0.mk (blk_below (pB_ BKAe.out) hb)
  replace BKAd := Aside0.mk (blk_below (pB_ BKAd.out) hb)
  replace BKAa := Aside0.mk (blk_below (pB_ BKAa.out) hb)
  replace HB := Aside0.mk (below_step (pH_ HB.out) hb)
  clear hb hbox hg
  refine hK.out _ _ ⟨(blk_cell BKAa.out 0).trans rfl, (blk_cell BKAa.out 1).trans rfl, (blk_cell BKAa.out 2).trans rfl, (blk_cell BKAa.out 3).trans rfl, (blk_cell BKAa.out 4).trans rfl, (blk_cell BKAa.out 5).trans rfl⟩ (fun hHeld => ?_)
  clear hK K
  refine nq_ 15 ?_
  refine oq_ 3 45 HT_ (fun K hK => ?_)
  refine gs_ Try.func32 #[.string tAr, .int .i64 tAy] ?_
  with_reducible refine (plaitingref1_Turn.calls k tAr tAy tBp _ A13.out).mono ?_
  rintro e w' ⟨rfl, ⟨nd, rfl⟩⟩
  refine ⟨_, rfl, ?_⟩
  refine hK.out _ _ ⟨(blk_cell BKAa.out 0).trans rfl, (blk_cell BKAa.out 1).trans rfl, (blk_cell BKAa.out 2).trans rfl, (blk_cell BKAa.out 3).trans rfl, (blk_cell BKAa.out 4).trans rfl, (blk_cell BKAa.out 5).trans rfl⟩ (fun hHeld => ?_)
  clear hK K
  refine nq_ 45 ?_
  refine oq_ 4 46 HT_ (fun K hK => ?_)
  refine gs_ Try.func35 #[.agg #[.int .i64 tAg, .int .i64 tAm, .int .i64 tAn, .int .i64 tAp, .int .i64 tAq, .slice Ao85 tAj.length co85], .string tBp] ?_
  with_reducible refine (frame_Read.calls tAg tAm tAn tAp tAq _ _ tAj tBp tAv tBa tBd tBf tBh tAt tBr _ ?side1 ?side2 A14.out).mono ?_
  (case side1 => exact cC_ (Kd.R_reads' HOAh.out).2.2)
  (case side2 => exact (Kd.R_reads' HOAh.out).2.1)
  rintro e w93 ⟨vBw, rfl, ho0, hb⟩
  refine ⟨_, rfl, ?_⟩
  have HOAk := Aside0.mk (Kd.R_lower (Kd.R_new' ho0 (Kd.R_lt (pR_ HOAi.out))) (below_size (pH_ HB.out)))
  replace HOAh := Aside0.mk (Kd.R_below (pR_ HOAh.out) hb)
  replace HOAi := Aside0.mk (Kd.R_elder' (pR_ HOAi.out) (Kd.R_base ho0) hb)
  replace BKAe := Aside0.mk (blk_below (pB_ BKAe.out) hb)
  replace BKAd := Aside0.mk (blk_below (pB_ BKAd.out) hb)
  replace BKAa := Aside0.mk (blk_below (pB_ BKAa.out) hb)
  replace BKAb := Aside0.mk (blk_below (pB_ BKAb.out) hb)
  replace HB := Aside0.mk (below_step (pH_ HB.out) hb)
  (try clear hb)
  (try clear hb2)
  (try clear hk)
  (try clear hi)
  (try clear ho0)
  refine hK.out _ _ ⟨(blk_cell BKAa.out 0).trans rfl, (blk_cell BKAa.out 1).trans rfl, (blk_cell BKAa.out 2).trans rfl, (blk_cell BKAa.out 3).trans rfl, (blk_cell BKAa.out 4).trans rfl, (blk_cell BKAa.out 5).trans rfl⟩ (fun hHeld => ?_)
  clear hK K
  refine nq_ 46 ?_
  refine pq_ 5 41 HT_ ?_
  refine pq_ 6 47 HT_ ?_
  refine pq_ 7 48 HT_ ?_
  exact norm_ (by simp only [putAll, Act.put, List.setIfInBounds_toArray, List.set_cons_zero, List.set_cons_succ]) (hCont (vBw, gbAb) _ ⟨hHeld, (pR_ HOAh.out), (by (with_reducible repeat (first | apply Kd.R_alloc | apply Kd.R_drewN | apply Kd.R_drew)); exact Kd.R_mono HOAi.out (fun _ hk => hk.2)), (by (with_reducible repeat (first | apply Kd.R_alloc | apply Kd.R_drewN | apply Kd.R_drew)); exact Kd.R_mono HOAk.out (fun _ hk => hk.2)), (pB_ BKAe.out), (pB_ BKAd.out), (pB_ BKAa.out), (pB_ BKAb.out), GWAb.out, GEAb.out, NBAe_Ab.out, NBAb_Ae.out, NBAd_Ab.out, NBAb_Ad.out, NBAa_Ab.out, NBAb_Aa.out, (pH_ HB.out)⟩)
 rintro ⟨vBw, gbAb⟩ w94 ⟨hS_, h0_, h1_, h2_, h3_, h4_, h5_, h6_, h7_, h8_, h9_, h10_, h11_, h12_, h13_, h14_, h15_⟩
 have n0_ : Aside0 (Kd.R (Kd.int .i64) 3 w94 w.heap.size (fun _ => True) (.slice Ao85 tAj.length co85) tAj) := ⟨h0_⟩
 have n1_ : Aside0 (Kd.R k26 26 w94 w.heap.size (fun k_ => some k_ ≠ (vBw : Value).ownBlock) (.slice Ao89 tAw.length co89) tAw) := ⟨h1_⟩
 have n2_ : Aside0 (Kd.R k26 26 w94 w.heap.size (fun k_ => some k_ ≠ (.slice Ao89 tAw.length co89 : Value).ownBlock) vBw tAt) := ⟨h2_⟩
 have n3_ : Aside0 (w94.heap[gbAe]? = some (.cells #[.int .i64 a0_0, .int .i64 a0_1, .int .i64 a0_2, .int .i64 a0_3, .int .i64 a0_4, .slice A0_5 l0_5.length c0_5] 24 (0, 0))) := ⟨h3_⟩
 have n4_ : Aside0 (w94.heap[gbAd]? = some (.cells #[.int .i64 a1_0, .int .i64 a1_1, .int .i64 a1_2, .int .i64 a1_3, .int .i64 a1_4, .slice A1_5 l1_5.length c1_5] 29 (0, 0))) := ⟨h4_⟩
 have n5_ : Aside0 (w94.heap[gbAa]? = some (.cells #[.int .i64 tAg, .int .i64 tAm, .int .i64 tAn, .int .i64 tAp, .int .i64 tAq, .slice Ao85 tAj.length co85] 24 (0, 0))) := ⟨h5_⟩
 have n6_ : Aside0 (w94.heap[gbAb]? = some (.cells #[.int .i64 0, .int .i64 0, .int .i64 0, .int .i64 0, .int .i64 0, .slice none 0 0] 29 (0, 0))) := ⟨h6_⟩
 have n7_ : Aside0 (w.heap.size ≤ gbAb) := ⟨h7_⟩
 have n8_ : Aside0 (w.heap.size ≤ gbAb) := ⟨h8_⟩
 have n9_ : Aside0 (gbAe ≠ gbAb) := ⟨h9_⟩
 have n10_ : Aside0 (gbAb ≠ gbAe) := ⟨h10_⟩
 have n11_ : Aside0 (gbAd ≠ gbAb) := ⟨h11_⟩
 have n12_ : Aside0 (gbAb ≠ gbAd) := ⟨h12_⟩
 have n13_ : Aside0 (gbAa ≠ gbAb) := ⟨h13_⟩
 have n14_ : Aside0 (gbAb ≠ gbAa) := ⟨h14_⟩
 have n15_ : Aside0 (Below w.heap.size w w94) := ⟨h15_⟩
 clear HOAh
 clear HOAi
 clear BKAe
 clear BKAd
 clear BKAa
 clear HB
 clear h0_ h1_ h2_ h3_ h4_ h5_ h6_ h7_ h8_ h9_ h10_ h11_ h12_ h13_ h14_ h15_
 have HOAh := n0_
 have HOAi := n1_
 have HOAk := n2_
 have BKAe := n3_
 have BKAd := n4_
 have BKAa := n5_
 have BKAb := n6_
 have GWAb := n7_
 have GEAb := n8_
 have NBAe_Ab := n9_
 have NBAb_Ae := n10_
 have NBAd_Ab := n11_
 have NBAb_Ad := n12_
 have NBAa_Ab := n13_
 have NBAb_Aa := n14_
 have HB := n15_
 clear n0_ n1_ n2_ n3_ n4_ n5_ n6_ n7_ n8_ n9_ n10_ n11_ n12_ n13_ n14_ n15_
 have hHeld : w94.cell? ⟨gbAa, 0, none⟩ = some (.int .i64 tAg) ∧ w94.cell? ⟨gbAa, 1, none⟩ = some (.int .i64 tAm) ∧ w94.cell? ⟨gbAa, 2, none⟩ = some (.int .i64 tAn) ∧ w94.cell? ⟨gbAa, 3, none⟩ = some (.int .i64 tAp) ∧ w94.cell? ⟨gbAa, 4, none⟩ = some (.int .i64 tAq) ∧ w94.cell? ⟨gbAa, 5, none⟩ = some (.slice Ao85 tAj.length co85) := hS_
 obtain ⟨Ao100, co100, eo100⟩ := Kd.R_slice HOAk.out
 (first | subst eo100 | (injection eo100 with f1_ f2_ f3_; have f4_ := f1_.symm; have f5_ := f3_.symm; clear f1_ f2_ f3_; subst f4_; subst f5_))
 refine norm_ (a' := ?_) ?_ ?_
 rotate_left
 ·
  simp only [putAll, Act.put, List.setIfInBounds_toArray, List.set_cons_zero, List.set_cons_succ]
  rfl
 refine one_ (i := 9) (N := none) #[true, true, true, true, true, true, true, true, true, true, false] rfl rfl (one_of HT_.out (by kernel_rfl)) (by decide) (fun K hK => ?_)
 have hs95 : w94.cell? ⟨gbAb, 0, none⟩ = some (.int .i64 0) := (blk_cell BKAb.out 0).trans rfl
 have hfs95 := blk_frozen BKAb.out 0
 have hns95_0 := NBAe_Ab.out
 have hns95_1 := NBAd_Ab.out
 have hns95_2 := NBAa_Ab.out
 have hms95_0 := NBAb_Ae.out
 have hms95_1 := NBAb_Ad.out
 have hms95_2 := NBAb_Aa.out
 have hs96 : w94.cell? ⟨gbAb, 1, none⟩ = some (.int .i64 0) := (blk_cell BKAb.out 1).trans rfl
 have hfs96 := blk_frozen BKAb.out 1
 have hns96_0 := NBAe_Ab.out
 have hns96_1 := NBAd_Ab.out
 have hns96_2 := NBAa_Ab.out
 have hms96_0 := NBAb_Ae.out
 have hms96_1 := NBAb_Ad.out
 have hms96_2 := NBAb_Aa.out
 have hs97 : w94.cell? ⟨gbAb, 2, none⟩ = some (.int .i64 0) := (blk_cell BKAb.out 2).trans rfl
 have hfs97 := blk_frozen BKAb.out 2
 have hns97_0 := NBAe_Ab.out
 have hns97_1 := NBAd_Ab.out
 have hns97_2 := NBAa_Ab.out
 have hms97_0 := NBAb_Ae.out
 have hms97_1 := NBAb_Ad.out
 have hms97_2 := NBAb_Aa.out
 have hs98 : w94.cell? ⟨gbAb, 3, none⟩ = some (.int .i64 0) := (blk_cell BKAb.out 3).trans rfl
 have hfs98 := blk_frozen BKAb.out 3
 have hns98_0 := NBAe_Ab.out
 have hns98_1 := NBAd_Ab.out
 have hns98_2 := NBAa_Ab.out
 have hms98_0 := NBAb_Ae.out
 have hms98_1 := NBAb_Ad.out
 have hms98_2 := NBAb_Aa.out
 have hs99 : w94.cell? ⟨gbAb, 4, none⟩ = some (.int .i64 0) := (blk_cell BKAb.out 4).trans rfl
 have hfs99 := blk_frozen BKAb.out 4
 have hns99_0 := NBAe_Ab.out
 have hns99_1 := NBAd_Ab.out
 have hns99_2 := NBAa_Ab.out
 have hms99_0 := NBAb_Ae.out
 have hms99_1 := NBAb_Ad.out
 have hms99_2 := NBAb_Aa.out
 have hs101 : w94.cell? ⟨gbAb, 5, none⟩ = some (.slice none 0 0) := (blk_cell BKAb.out 5).trans rfl
 have hfs101 := blk_frozen BKAb.out 5
 have hns101_0 := NBAe_Ab.out
 have hns101_1 := NBAd_Ab.out
 have hns101_2 := NBAa_Ab.out
 have hms101_0 := NBAb_Ae.out
 have hms101_1 := NBAb_Ad.out
 have hms101_2 := NBAb_Aa.out
 refine skip_ (w1 := ?_) (by rfl) rfl ?_ ?_
 rotate_left
 ·
  go_simp
  rfl
 refine hK.out _ _ ⟨((cell_far (p := ⟨gbAb, _, none⟩) NBAa_Ab.out _).trans (((cell_far (p := ⟨gbAb, _, none⟩) NBAa_Ab.out _).trans (((cell_far (p := ⟨gbAb, _, none⟩) NBAa_Ab.out _).trans (((cell_far (p := ⟨gbAb, _, none⟩) NBAa_Ab.out _).trans (((cell_far (p := ⟨gbAb, _, none⟩) NBAa_Ab.out _).trans (((cell_far (p := ⟨gbAb, _, none⟩) NBAa_Ab.out _).trans (hHeld.1)))))))))))), ((cell_far (p := ⟨gbAb, _, none⟩) NBAa_Ab.out _).trans (((cell_far (p := ⟨gbAb, _, none⟩) NBAa_Ab.out _).trans (((cell_far (p := ⟨gbAb, _, none⟩) NBAa_Ab.out _).trans (((cell_far (p := ⟨gbAb, _, none⟩) NBAa_Ab.out _).trans (((cell_far (p := ⟨gbAb, _, none⟩) NBAa_Ab.out _).trans (((cell_far (p := ⟨gbAb, _, none⟩) NBAa_Ab.out _).trans (hHeld.2.1)))))))))))), ((cell_far (p := ⟨gbAb, _, none⟩) NBAa_Ab.out _).trans (((cell_far (p := ⟨gbAb, _, none⟩) NBAa_Ab.out _).trans (((cell_far (p := ⟨gbAb, _, none⟩) NBAa_Ab.out _).trans (((cell_far (p := ⟨gbAb, _, none⟩) NBAa_Ab.out _).trans (((cell_far (p := ⟨gbAb, _, none⟩) NBAa_Ab.out _).trans (((cell_far (p := ⟨gbAb, _, none⟩) NBAa_Ab.out _).trans (hHeld.2.2.1)))))))))))), ((cell_far (p := ⟨gbAb, _, none⟩) NBAa_Ab.out _).trans (((cell_far (p := ⟨gbAb, _, none⟩) NBAa_Ab.out _).trans (((cell_far (p := ⟨gbAb, _, none⟩) NBAa_Ab.out _).trans (((cell_far (p := ⟨gbAb, _, none⟩) NBAa_Ab.out _).trans (((cell_far (p := ⟨gbAb, _, none⟩) NBAa_Ab.out _).trans (((cell_far (p := ⟨gbAb, _, none⟩) NBAa_Ab.out _).trans (hHeld.2.2.2.1)))))))))))), ((cell_far (p := ⟨gbAb, _, none⟩) NBAa_Ab.out _).trans (((cell_far (p := ⟨gbAb, _, none⟩) NBAa_Ab.out _).trans (((cell_far (p := ⟨gbAb, _, none⟩) NBAa_Ab.out _).trans (((cell_far (p := ⟨gbAb, _, none⟩) NBAa_Ab.out _).trans (((cell_far (p := ⟨gbAb, _, none⟩) NBAa_Ab.out _).trans (((cell_far (p := ⟨gbAb, _, none⟩) NBAa_Ab.out _).trans (hHeld.2.2.2.2.1)))))))))))), ((cell_far (p := ⟨gbAb, _, none⟩) NBAa_Ab.out _).trans (((cell_far (p := ⟨gbAb, _, none⟩) NBAa_Ab.out _).trans (((cell_far (p := ⟨gbAb, _, none⟩) NBAa_Ab.out _).trans (((cell_far (p := ⟨gbAb, _, none⟩) NBAa_Ab.out _).trans (((cell_far (p := ⟨gbAb, _, none⟩) NBAa_Ab.out _).trans (((cell_far (p := ⟨gbAb, _, none⟩) NBAa_Ab.out _).trans (hHeld.2.2.2.2.2))))))))))))⟩ (fun hHeld => ?_)
 clear hK K
 refine pq_ 10 16 HT_ ?_
 refine done_ (done_of HT_.out (by kernel_rfl)) ?_
 try go_wp2
 (try (rw [drewN_self w94]; generalize hq_ : World.drewN w94 _ = w94; have n0_ := Aside0.mk (Kd.R_at hq_ HOAh.out); have n1_ := Aside0.mk (Kd.R_at hq_ HOAi.out); have n2_ := Aside0.mk (Kd.R_at hq_ HOAk.out); have n3_ := Aside0.mk (blk_at hq_ BKAe.out); have n4_ := Aside0.mk (blk_at hq_ BKAd.out); have n5_ := Aside0.mk (blk_at hq_ BKAa.out); have n6_ := Aside0.mk (blk_at hq_ BKAb.out); have n7_ := Aside0.mk (below_at hq_ HB.out); clear hq_ HOAh HOAi HOAk BKAe BKAd BKAa BKAb HB; have HOAh := n0_; have HOAi := n1_; have HOAk := n2_; have BKAe := n3_; have BKAd := n4_; have BKAa := n5_; have BKAb := n6_; have HB := n7_; clear n0_ n1_ n2_ n3_ n4_ n5_ n6_ n7_))
 have n0_ : Aside0 (Kd.R (Kd.int .i64) 3 ((((((w94.setCell ⟨gbAb, 0, none⟩ (.int .i64 tAv)).setCell ⟨gbAb, 1, none⟩ (.int .i64 tBa)).setCell ⟨gbAb, 2, none⟩ (.int .i64 tBd)).setCell ⟨gbAb, 3, none⟩ (.int .i64 tBf)).setCell ⟨gbAb, 4, none⟩ (.int .i64 tBh)).setCell ⟨gbAb, 5, none⟩ (.slice Ao100 tAt.length co100)) w.heap.size (fun _ => True) (.slice Ao85 tAj.length co85) tAj) := ⟨by (with_reducible repeat (first | apply Kd.R_alloc | apply Kd.R_drewN | apply Kd.R_drew)); exact Kd.R_mono (Kd.R_far (p := ⟨gbAb, 5, none⟩) (Kd.R_far (p := ⟨gbAb, 4, none⟩) (Kd.R_far (p := ⟨gbAb, 3, none⟩) (Kd.R_far (p := ⟨gbAb, 2, none⟩) (Kd.R_far (p := ⟨gbAb, 1, none⟩) (Kd.R_far (p := ⟨gbAb, 0, none⟩) (Kd.R_types HOAh.out BKAb.out (by decide)) (fun _ hk => hk.2) (.int .i64 tAv)) (fun _ hk => hk.2) (.int .i64 tBa)) (fun _ hk => hk.2) (.int .i64 tBd)) (fun _ hk => hk.2) (.int .i64 tBf)) (fun _ hk => hk.2) (.int .i64 tBh)) (fun _ hk => hk.2) (.slice Ao100 tAt.length co100)) (fun _ hk => trivial)⟩
 have n1_ : Aside0 (Kd.R k26 26 ((((((w94.setCell ⟨gbAb, 0, none⟩ (.int .i64 tAv)).setCell ⟨gbAb, 1, none⟩ (.int .i64 tBa)).setCell ⟨gbAb, 2, none⟩ (.int .i64 tBd)).setCell ⟨gbAb, 3, none⟩ (.int .i64 tBf)).setCell ⟨gbAb, 4, none⟩ (.int .i64 tBh)).setCell ⟨gbAb, 5, none⟩ (.slice Ao100 tAt.length co100)) w.heap.size (fun k_ => some k_ ≠ (.slice Ao100 tAt.length co100 : Value).ownBlock) (.slice Ao89 tAw.length co89) tAw) := ⟨by (with_reducible repeat (first | apply Kd.R_alloc | apply Kd.R_drewN | apply Kd.R_drew)); exact Kd.R_mono (Kd.R_far (p := ⟨gbAb, 5, none⟩) (Kd.R_far (p := ⟨gbAb, 4, none⟩) (Kd.R_far (p := ⟨gbAb, 3, none⟩) (Kd.R_far (p := ⟨gbAb, 2, none⟩) (Kd.R_far (p := ⟨gbAb, 1, none⟩) (Kd.R_far (p := ⟨gbAb, 0, none⟩) (Kd.R_types HOAi.out BKAb.out (by decide)) (fun _ hk => hk.2) (.int .i64 tAv)) (fun _ hk => hk.2) (.int .i64 tBa)) (fun _ hk => hk.2) (.int .i64 tBd)) (fun _ hk => hk.2) (.int .i64 tBf)) (fun _ hk => hk.2) (.int .i64 tBh)) (fun _ hk => hk.2) (.slice Ao100 tAt.length co100)) (fun _ hk => hk.1)⟩
 have n2_ : Aside0 (Kd.R k26 26 ((((((w94.setCell ⟨gbAb, 0, none⟩ (.int .i64 tAv)).setCell ⟨gbAb, 1, none⟩ (.int .i64 tBa)).setCell ⟨gbAb, 2, none⟩ (.int .i64 tBd)).setCell ⟨gbAb, 3, none⟩ (.int .i64 tBf)).setCell ⟨gbAb, 4, none⟩ (.int .i64 tBh)).setCell ⟨gbAb, 5, none⟩ (.slice Ao100 tAt.length co100)) w.heap.size (fun k_ => some k_ ≠ (.slice Ao89 tAw.length co89 : Value).ownBlock) (.slice Ao100 tAt.length co100) tAt) := ⟨by (with_reducible repeat (first | apply Kd.R_alloc | apply Kd.R_drewN | apply Kd.R_drew)); exact Kd.R_mono (Kd.R_far (p := ⟨gbAb, 5, none⟩) (Kd.R_far (p := ⟨gbAb, 4, none⟩) (Kd.R_far (p := ⟨gbAb, 3, none⟩) (Kd.R_far (p := ⟨gbAb, 2, none⟩) (Kd.R_far (p := ⟨gbAb, 1, none⟩) (Kd.R_far (p := ⟨gbAb, 0, none⟩) (Kd.R_types HOAk.out BKAb.out (by decide)) (fun _ hk => hk.2) (.int .i64 tAv)) (fun _ hk => hk.2) (.int .i64 tBa)) (fun _ hk => hk.2) (.int .i64 tBd)) (fun _ hk => hk.2) (.int .i64 tBf)) (fun _ hk => hk.2) (.int .i64 tBh)) (fun _ hk => hk.2) (.slice Ao100 tAt.length co100)) (fun _ hk => hk.1)⟩
 have n3_ : Aside0 (((((((w94.setCell ⟨gbAb, 0, none⟩ (.int .i64 tAv)).setCell ⟨gbAb, 1, none⟩ (.int .i64 tBa)).setCell ⟨gbAb, 2, none⟩ (.int .i64 tBd)).setCell ⟨gbAb, 3, none⟩ (.int .i64 tBf)).setCell ⟨gbAb, 4, none⟩ (.int .i64 tBh)).setCell ⟨gbAb, 5, none⟩ (.slice Ao100 tAt.length co100)).heap[gbAe]? = some (.cells #[.int .i64 a0_0, .int .i64 a0_1, .int .i64 a0_2, .int .i64 a0_3, .int .i64 a0_4, .slice A0_5 l0_5.length c0_5] 24 (0, 0))) := ⟨by (with_reducible repeat (first | refine blk_drewN ?_ _ | refine blk_drew ?_ | refine blk_alloc ?_ _)); refine blk_far ?_ NBAe_Ab.out _; refine blk_far ?_ NBAe_Ab.out _; refine blk_far ?_ NBAe_Ab.out _; refine blk_far ?_ NBAe_Ab.out _; refine blk_far ?_ NBAe_Ab.out _; refine blk_far ?_ NBAe_Ab.out _; (with_reducible repeat (first | refine blk_drewN ?_ _ | refine blk_drew ?_ | refine blk_alloc ?_ _)); exact BKAe.out⟩
 have n4_ : Aside0 (((((((w94.setCell ⟨gbAb, 0, none⟩ (.int .i64 tAv)).setCell ⟨gbAb, 1, none⟩ (.int .i64 tBa)).setCell ⟨gbAb, 2, none⟩ (.int .i64 tBd)).setCell ⟨gbAb, 3, none⟩ (.int .i64 tBf)).setCell ⟨gbAb, 4, none⟩ (.int .i64 tBh)).setCell ⟨gbAb, 5, none⟩ (.slice Ao100 tAt.length co100)).heap[gbAd]? = some (.cells #[.int .i64 a1_0, .int .i64 a1_1, .int .i64 a1_2, .int .i64 a1_3, .int .i64 a1_4, .slice A1_5 l1_5.length c1_5] 29 (0, 0))) := ⟨by (with_reducible repeat (first | refine blk_drewN ?_ _ | refine blk_drew ?_ | refine blk_alloc ?_ _)); refine blk_far ?_ NBAd_Ab.out _; refine blk_far ?_ NBAd_Ab.out _; refine blk_far ?_ NBAd_Ab.out _; refine blk_far ?_ NBAd_Ab.out _; refine blk_far ?_ NBAd_Ab.out _; refine blk_far ?_ NBAd_Ab.out _; (with_reducible repeat (first | refine blk_drewN ?_ _ | refine blk_drew ?_ | refine blk_alloc ?_ _)); exact BKAd.out⟩
 have n5_ : Aside0 (((((((w94.setCell ⟨gbAb, 0, none⟩ (.int .i64 tAv)).setCell ⟨gbAb, 1, none⟩ (.int .i64 tBa)).setCell ⟨gbAb, 2, none⟩ (.int .i64 tBd)).setCell ⟨gbAb, 3, none⟩ (.int .i64 tBf)).setCell ⟨gbAb, 4, none⟩ (.int .i64 tBh)).setCell ⟨gbAb, 5, none⟩ (.slice Ao100 tAt.length co100)).heap[gbAa]? = some (.cells #[.int .i64 tAg, .int .i64 tAm, .int .i64 tAn, .int .i64 tAp, .int .i64 tAq, .slice Ao85 tAj.length co85] 24 (0, 0))) := ⟨by (with_reducible repeat (first | refine blk_drewN ?_ _ | refine blk_drew ?_ | refine blk_alloc ?_ _)); refine blk_far ?_ NBAa_Ab.out _; refine blk_far ?_ NBAa_Ab.out _; refine blk_far ?_ NBAa_Ab.out _; refine blk_far ?_ NBAa_Ab.out _; refine blk_far ?_ NBAa_Ab.out _; refine blk_far ?_ NBAa_Ab.out _; (with_reducible repeat (first | refine blk_drewN ?_ _ | refine blk_drew ?_ | refine blk_alloc ?_ _)); exact BKAa.out⟩
 have n6_ : Aside0 (((((((w94.setCell ⟨gbAb, 0, none⟩ (.int .i64 tAv)).setCell ⟨gbAb, 1, none⟩ (.int .i64 tBa)).setCell ⟨gbAb, 2, none⟩ (.int .i64 tBd)).setCell ⟨gbAb, 3, none⟩ (.int .i64 tBf)).setCell ⟨gbAb, 4, none⟩ (.int .i64 tBh)).setCell ⟨gbAb, 5, none⟩ (.slice Ao100 tAt.length co100)).heap[gbAb]? = some (.cells #[.int .i64 tAv, .int .i64 tBa, .int .i64 tBd, .int .i64 tBf, .int .i64 tBh, .slice Ao100 tAt.length co100] 29 (0, 0))) := ⟨by (with_reducible repeat (first | refine blk_drewN ?_ _ | refine blk_drew ?_ | refine blk_alloc ?_ _)); refine blk_put (cs := #[.int .i64 tAv, .int .i64 tBa, .int .i64 tBd, .int .i64 tBf, .int .i64 tBh, .slice none 0 0]) ?_ 5 _ rfl; refine blk_put (cs := #[.int .i64 tAv, .int .i64 tBa, .int .i64 tBd, .int .i64 tBf, .int .i64 0, .slice none 0 0]) ?_ 4 _ rfl; refine blk_put (cs := #[.int .i64 tAv, .int .i64 tBa, .int .i64 tBd, .int .i64 0, .int .i64 0, .slice none 0 0]) ?_ 3 _ rfl; refine blk_put (cs := #[.int .i64 tAv, .int .i64 tBa, .int .i64 0, .int .i64 0, .int .i64 0, .slice none 0 0]) ?_ 2 _ rfl; refine blk_put (cs := #[.int .i64 tAv, .int .i64 0, .int .i64 0, .int .i64 0, .int .i64 0, .slice none 0 0]) ?_ 1 _ rfl; refine blk_put (cs := #[.int .i64 0, .int .i64 0, .int .i64 0, .int .i64 0, .int .i64 0, .slice none 0 0]) ?_ 0 _ rfl; (with_reducible repeat (first | refine blk_drewN ?_ _ | refine blk_drew ?_ | refine blk_alloc ?_ _)); exact BKAb.out⟩
 have n7_ : Aside0 (Below w.heap.size w ((((((w94.setCell ⟨gbAb, 0, none⟩ (.int .i64 tAv)).setCell ⟨gbAb, 1, none⟩ (.int .i64 tBa)).setCell ⟨gbAb, 2, none⟩ (.int .i64 tBd)).setCell ⟨gbAb, 3, none⟩ (.int .i64 tBf)).setCell ⟨gbAb, 4, none⟩ (.int .i64 tBh)).setCell ⟨gbAb, 5, none⟩ (.slice Ao100 tAt.length co100))) := ⟨by repeat (first | (with_reducible first | exact HB.out | apply below_alloc | apply pw_below_drewN | apply below_drew1 | refine below_set ?_ GEAe.out | refine below_set ?_ GEAd.out | refine below_set ?_ GEAa.out | refine below_set ?_ GEAb.out) | exact HB.out)⟩
 (try clear HOAh)
 (try clear HOAi)
 (try clear HOAk)
 (try clear BKAe)
 (try clear BKAd)
 (try clear BKAa)
 (try clear BKAb)
 (try clear HB)
 generalize ((((((w94.setCell ⟨gbAb, 0, none⟩ (.int .i64 tAv)).setCell ⟨gbAb, 1, none⟩ (.int .i64 tBa)).setCell ⟨gbAb, 2, none⟩ (.int .i64 tBd)).setCell ⟨gbAb, 3, none⟩ (.int .i64 tBf)).setCell ⟨gbAb, 4, none⟩ (.int .i64 tBh)).setCell ⟨gbAb, 5, none⟩ (.slice Ao100 tAt.length co100)) = w102 at n0_ n1_ n2_ n3_ n4_ n5_ n6_ n7_ ⊢
 have HOAh := n0_
 have HOAi := n1_
 have HOAk := n2_
 have BKAe := n3_
 have BKAd := n4_
 have BKAa := n5_
 have BKAb := n6_
 have HB := n7_
 clear n0_ n1_ n2_ n3_ n4_ n5_ n6_ n7_
 replace HOAh := Aside0.mk (Kd.R_drew HOAh.out)
 replace HOAi := Aside0.mk (Kd.R_drew HOAi.out)
 replace HOAk := Aside0.mk (Kd.R_drew HOAk.out)
 replace BKAe := Aside0.mk (blk_drew BKAe.out)
 replace BKAd := Aside0.mk (blk_drew BKAd.out)
 replace BKAa := Aside0.mk (blk_drew BKAa.out)
 replace BKAb := Aside0.mk (blk_drew BKAb.out)
 replace HB := Aside0.mk (below_drew1 HB.out)
 refine start_ (n := 13) (S := fun w' => w'.cell? ⟨gbAa, 0, none⟩ = some (.int .i64 tAg) ∧ w'.cell? ⟨gbAa, 1, none⟩ = some (.int .i64 tAm) ∧ w'.cell? ⟨gbAa, 2, none⟩ = some (.int .i64 tAn) ∧ w'.cell? ⟨gbAa, 3, none⟩ = some (.int .i64 tAp) ∧ w'.cell? ⟨gbAa, 4, none⟩ = some (.int .i64 tAq) ∧ w'.cell? ⟨gbAa, 5, none⟩ = some (.slice Ao85 tAj.length co85)) (ds := []) #[false, false, false, false, false, false, false, false, false, false, false, false, false] (by kernel_rfl) rfl rfl ⟨(blk_cell BKAa.out 0).trans rfl, (blk_cell BKAa.out 1).trans rfl, (blk_cell BKAa.out 2).trans rfl, (blk_cell BKAa.out 3).trans rfl, (blk_cell BKAa.out 4).trans rfl, (blk_cell BKAa.out 5).trans rfl⟩ (fun hHeld => ?_); refine with_tabW plaitinglaw5_FrameTurn.tab7 plaitinglaw5_FrameTurn.bits7 (fun HT_ HW_ => ?_)
 generalize w102.drew = w103 at HOAh HOAi HOAk BKAe BKAd BKAa BKAb HB hHeld ⊢
 refine pq_ 1 51 HT_ ?_
 refine pq_ 2 52 HT_ ?_
 refine pq_ 4 54 HT_ ?_
 refine tq_ 0 50 HT_ HW_ hHeld ?_
 refine join_ (σ := Value × Nat) 2 #[true, true, true, true, true, true, true, true, true, true, true, false, false] (fun s_ => [(53, .string tBn), (55, .string tBi), (56, .tuple #[.agg #[.int .i64 tAs, .int .i64 tAz, .int .i64 tBb, .int .i64 tBe, .int .i64 tBg, s_.1], .int .i64 tBq]), (17, .pointer (some ⟨s_.2, 0, none⟩)), (49, .tuple #[.agg #[.int .i64 tAs, .int .i64 tAz, .int .i64 tBb, .int .i64 tBe, .int .i64 tBg, s_.1], .int .i64 tBq]), (57, .agg #[.int .i64 tAs, .int .i64 tAz, .int .i64 tBb, .int .i64 tBe, .int .i64 tBg, s_.1]), (58, .int .i64 tBq)]) (fun s_ w' => (w'.cell? ⟨gbAa, 0, none⟩ = some (.int .i64 tAg) ∧ w'.cell? ⟨gbAa, 1, none⟩ = some (.int .i64 tAm) ∧ w'.cell? ⟨gbAa, 2, none⟩ = some (.int .i64 tAn) ∧ w'.cell? ⟨gbAa, 3, none⟩ = some (.int .i64 tAp) ∧ w'.cell? ⟨gbAa, 4, none⟩ = some (.int .i64 tAq) ∧ w'.cell? ⟨gbAa, 5, none⟩ = some (.slice Ao85 tAj.length co85)) ∧ (Kd.R (Kd.int .i64) 3 w' w.heap.size (fun _ => True) (.slice Ao85 tAj.length co85) tAj) ∧ (Kd.R k26 26 w' w.heap.size (fun k_ => some k_ ≠ (.slice Ao100 tAt.length co100 : Value).ownBlock ∧ some k_ ≠ (s_.1 : Value).ownBlock) (.slice Ao89 tAw.length co89) tAw) ∧ (Kd.R k26 26 w' w.heap.size (fun k_ => some k_ ≠ (.slice Ao89 tAw.length co89 : Value).ownBlock ∧ some k_ ≠ (s_.1 : Value).ownBlock) (.slice Ao100 tAt.length co100) tAt) ∧ (Kd.R k26 26 w' w.heap.size (fun k_ => some k_ ≠ (.slice Ao89 tAw.length co89 : Value).ownBlock ∧ some k_ ≠ (.slice Ao100 tAt.length co100 : Value).ownBlock) s_.1 tAx) ∧ (w'.heap[gbAe]? = some (.cells #[.int .i64 a0_0, .int .i64 a0_1, .int .i64 a0_2, .int .i64 a0_3, .int .i64 a0_4, .slice A0_5 l0_5.length c0_5] 24 (0, 0))) ∧ (w'.heap[gbAd]? = some (.cells #[.int .i64 a1_0, .int .i64 a1_1, .int .i64 a1_2, .int .i64 a1_3, .int .i64 a1_4, .slice A1_5 l1_5.length c1_5] 29 (0, 0))) ∧ (w'.heap[gbAa]? = some (.cells #[.int .i64 tAg, .int .i64 tAm, .int .i64 tAn, .int .i64 tAp, .int .i64 tAq, .slice Ao85 tAj.length co85] 24 (0, 0))) ∧ (w'.heap[gbAb]? = some (.cells #[.int .i64 tAv, .int .i64 tBa, .int .i64 tBd, .int .i64 tBf, .int .i64 tBh, .slice Ao100 tAt.length co100] 29 (0, 0))) ∧ (w'.heap[s_.2]? = some (.cells #[.int .i64 0, .int .i64 0, .int .i64 0, .int .i64 0, .int .i64 0, .slice none 0 0] 29 (0, 0))) ∧ (w.heap.size ≤ s_.2) ∧ (w.heap.size ≤ s_.2) ∧ (gbAe ≠ s_.2) ∧ (s_.2 ≠ gbAe) ∧ (gbAd ≠ s_.2) ∧ (s_.2 ≠ gbAd) ∧ (gbAa ≠ s_.2) ∧ (s_.2 ≠ gbAa) ∧ (gbAb ≠ s_.2) ∧ (s_.2 ≠ gbAb) ∧ (Below w.heap.size w w')) ?_ ?_
 rotate_left
 ·
  intro hCont
  refine two_ (i := 3) (j := 10) (Ni := some 53) (Nj := some 17) #[true, true, true, true, true, false, false, false, false, false, false, false, false] #[true, true, true, false, true, false, false, false, false, false, true, false, false] rfl rfl rfl rfl (two_of HT_.out (by kernel_rfl)) (by decide) (by decide) (fun K hK => ?_) (fun K hK => ?_)
  ·
   skip
   refine gs_ Try.func32 #[.string tAr, .int .i64 tAy] ?_
   with_reducible refine (plaitingref1_Turn.calls k tAr tAy tBn _ A15.out).mono ?_
   rintro e w' ⟨rfl, ⟨nd, rfl⟩⟩
   refine ⟨_, rfl, ?_⟩
   refine hK.out _ _ ⟨(blk_cell BKAa.out 0).trans rfl, (blk_cell BKAa.out 1).trans rfl, (blk_cell BKAa.out 2).trans rfl, (blk_cell BKAa.out 3).trans rfl, (blk_cell BKAa.out 4).trans rfl, (blk_cell BKAa.out 5).trans rfl⟩ (fun hHeld => ?_)
   clear hK K
   refine nq_ 53 ?_
   refine two_ (i := 5) (j := 10) (Ni := some 55) (Nj := some 17) #[true, true, true, true, true, true, false, false, false, false, false, false, false] #[true, true, true, true, true, false, false, false, false, false, true, false, false] rfl rfl rfl rfl (two_of HT_.out (by kernel_rfl)) (by decide) (by decide) (fun K hK => ?_) (fun K hK => ?_)
   ·
    skip
    refine gs_ Try.func32 #[.string tBn, .int .i64 tBc] ?_
    with_reducible refine (plaitingref1_Turn.calls k tBn tBc tBi _ A16.out).mono ?_
    rintro e w' ⟨rfl, ⟨nd, rfl⟩⟩
    refine ⟨_, rfl, ?_⟩
    refine hK.out _ _ ⟨(blk_cell BKAa.out 0).trans rfl, (blk_cell BKAa.out 1).trans rfl, (blk_cell BKAa.out 2).trans rfl, (blk_cell BKAa.out 3).trans rfl, (blk_cell BKAa.out 4).trans rfl, (blk_cell BKAa.out 5).trans rfl⟩ (fun hHeld => ?_)
    clear hK K
    refine nq_ 55 ?_
    refine two_ (i := 6) (j := 10) (Ni := some 56) (Nj := some 17) #[true, true, true, true, true, true, true, false, false, false, false, false, false] #[true, true, true, true, true, true, false, false, false, false, true, false, false] rfl rfl rfl rfl (two_of HT_.out (by kernel_rfl)) (by decide) (by decide) (fun K hK => ?_) (fun K hK => ?_)
    ·
     skip
     refine gs_ Try.func35 #[.agg #[.int .i64 tAg, .int .i64 tAm, .int .i64 tAn, .int .i64 tAp, .int .i64 tAq, .slice Ao85 tAj.length co85], .string tBi] ?_
     with_reducible refine (frame_Read.calls tAg tAm tAn tAp tAq _ _ tAj tBi tAs tAz tBb tBe tBg tAx tBq _ ?side1 ?side2 A17.out).mono ?_
     (case side1 => exact cC_ (Kd.R_reads' HOAh.out).2.2)
     (case side2 => exact (Kd.R_reads' HOAh.out).2.1)
     rintro e w104 ⟨vBs, rfl, ho0, hb⟩
     refine ⟨_, rfl, ?_⟩
     have HOAu := Aside0.mk (Kd.R_lower (Kd.R_new' (Kd.R_new' ho0 (Kd.R_lt (pR_ HOAi.out))) (Kd.R_lt (pR_ HOAk.out))) (below_size (pH_ HB.out)))
     replace HOAh := Aside0.mk (Kd.R_below (pR_ HOAh.out) hb)
     replace HOAi := Aside0.mk (Kd.R_elder' (pR_ HOAi.out) (Kd.R_base ho0) hb)
     replace HOAk := Aside0.mk (Kd.R_elder' (pR_ HOAk.out) (Kd.R_base ho0) hb)
     replace BKAe := Aside0.mk (blk_below (pB_ BKAe.out) hb)
     replace BKAd := Aside0.mk (blk_below (pB_ BKAd.out) hb)
     replace BKAa := Aside0.mk (blk_below (pB_ BKAa.out) hb)
     replace BKAb := Aside0.mk (blk_below (pB_ BKAb.out) hb)
     replace HB := Aside0.mk (below_step (pH_ HB.out) hb)
     (try clear hb)
     (try clear hb2)
     (try clear hk)
     (try clear hi)
     (try clear ho0)
     refine hK.out _ _ ⟨(blk_cell BKAa.out 0).trans rfl, (blk_cell BKAa.out 1).trans rfl, (blk_cell BKAa.out 2).trans rfl, (blk_cell BKAa.out 3).trans rfl, (blk_cell BKAa.out 4).trans rfl, (blk_cell BKAa.out 5).trans rfl⟩ (fun hHeld => ?_)
     clear hK K
     refine nq_ 56 ?_
     refine pq_ 7 49 HT_ ?_
     refine pq_ 8 57 HT_ ?_
     refine pq_ 9 58 HT_ ?_
     refine oq_ 10 17 HT_ (fun K hK => ?_)
     refine box_step ?hg (N := 17) ?hd (cs := #[.int .i64 0, .int .i64 0, .int .i64 0, .int .i64 0, .int .i64 0, .slice none 0 0]) (t := 29) ?hr ?_; (case hd => rfl); (case hg => rfl); (case hr => first | (go_simp; done) | (go_simp; rfl))
     intro gbAc hg w105 hbox hb
     have BKAc := Aside0.mk (hbox)
     have GWAc := Aside0.mk ((by rw [hg]; exact (below_size (pH_ HB.out)) : w.heap.size ≤ gbAc))
     have GEAc := Aside0.mk ((by rw [hg]; exact (below_size (pH_ HB.out)) : w.heap.size ≤ gbAc))
     have NBAe_Ac := Aside0.mk (ltB_ hg BKAe.out)
     have NBAc_Ae := Aside0.mk (ltB_ hg BKAe.out).symm
     have NBAd_Ac := Aside0.mk (ltB_ hg BKAd.out)
     have NBAc_Ad := Aside0.mk (ltB_ hg BKAd.out).symm
     have NBAa_Ac := Aside0.mk (ltB_ hg BKAa.out)
     have NBAc_Aa := Aside0.mk (ltB_ hg BKAa.out).symm
     have NBAb_Ac := Aside0.mk (ltB_ hg BKAb.out)
     have NBAc_Ab := Aside0.mk (ltB_ hg BKAb.out).symm
     replace HOAh := Aside0.mk (Kd.R_below (pR_ HOAh.out) hb)
     replace HOAi := Aside0.mk (Kd.R_below (pR_ HOAi.out) hb)
     replace HOAk := Aside0.mk (Kd.R_below (pR_ HOAk.out) hb)
     replace HOAu := Aside0.mk (Kd.R_below (pR_ HOAu.out) hb)
     replace BKAe := Aside0.mk (blk_below (pB_ BKAe.out) hb)
     replace BKAd := Aside0.mk (blk_below (pB_ BKAd.out) hb)
     replace BKAa := Aside0.mk (blk_below (pB_ BKAa.out) hb)
     replace BKAb := Aside0.mk (blk_below (pB_ BKAb.out) hb)
     replace HB := Aside0.mk (below_step (pH_ HB.out) hb)
     clear hb hbox hg
     refine hK.out _ _ ⟨(blk_cell BKAa.out 0).trans rfl, (blk_cell BKAa.out 1).trans rfl, (blk_cell BKAa.out 2).trans rfl, (blk_cell BKAa.out 3).trans rfl, (blk_cell BKAa.out 4).trans rfl, (blk_cell BKAa.out 5).trans rfl⟩ (fun hHeld => ?_)
     clear hK K
     refine nq_ 17 ?_
     exact norm_ (by simp only [putAll, Act.put, List.setIfInBounds_toArray, List.set_cons_zero, List.set_cons_succ]) (hCont (vBs, gbAc) _ ⟨hHeld, (pR_ HOAh.out), (pR_ HOAi.out), (pR_ HOAk.out), (by (with_reducible repeat (first | apply Kd.R_alloc | apply Kd.R_drewN | apply Kd.R_drew)); exact Kd.R_mono HOAu.out (fun _ hk => ⟨hk.1.2, hk.2⟩)), (pB_ BKAe.out), (pB_ BKAd.out), (pB_ BKAa.out), (pB_ BKAb.out), (pB_ BKAc.out), GWAc.out, GEAc.out, NBAe_Ac.out, NBAc_Ae.out, NBAd_Ac.out, NBAc_Ad.out, NBAa_Ac.out, NBAc_Aa.out, NBAb_Ac.out, NBAc_Ab.out, (pH_ HB.out)⟩)
    skip
    refine box_step ?hg (N := 17) ?hd (cs := #[.int .i64 0, .int .i64 0, .int .i64 0, .int .i64 0, .int .i64 0, .slice none 0 0]) (t := 29) ?hr ?_; (case hd => rfl); (case hg => rfl); (case hr => first | (go_simp; done) | (go_simp; rfl))
    intro gbAc hg w104 hbox hb
    have BKAc := Aside0.mk (hbox)
    have GWAc := Aside0.mk ((by rw [hg]; exact (below_size (pH_ HB.out)) : w.heap.size ≤ gbAc))
    have GEAc := Aside0.mk ((by rw [hg]; exact (below_size (pH_ HB.out)) : w.heap.size ≤ gbAc))
    have NBAe_Ac := Aside0.mk (ltB_ hg BKAe.out)
    have NBAc_Ae := Aside0.mk (ltB_ hg BKAe.out).symm
    have NBAd_Ac := Aside0.mk (ltB_ hg BKAd.out)
    have NBAc_Ad := Aside0.mk (ltB_ hg BKAd.out).symm
    have NBAa_Ac := Aside0.mk (ltB_ hg BKAa.out)
    have NBAc_Aa := Aside0.mk (ltB_ hg BKAa.out).symm
    have NBAb_Ac := Aside0.mk (ltB_ hg BKAb.out)
    have NBAc_Ab := Aside0.mk (ltB_ hg BKAb.out).symm
    replace HOAh := Aside0.mk (Kd.R_below (pR_ HOAh.out) hb)
    replace HOAi := Aside0.mk (Kd.R_below (pR_ HOAi.out) hb)
    replace HOAk := Aside0.mk (Kd.R_below (pR_ HOAk.out) hb)
    replace BKAe := Aside0.mk (blk_below (pB_ BKAe.out) hb)
    replace BKAd := Aside0.mk (blk_below (pB_ BKAd.out) hb)
    replace BKAa := Aside0.mk (blk_below (pB_ BKAa.out) hb)
    replace BKAb := Aside0.mk (blk_below (pB_ BKAb.out) hb)
    replace HB := Aside0.mk (below_step (pH_ HB.out) hb)
    clear hb hbox hg
    refine hK.out _ _ ⟨(blk_cell BKAa.out 0).trans rfl, (blk_cell BKAa.out 1).trans rfl, (blk_cell BKAa.out 2).trans rfl, (blk_cell BKAa.out 3).trans rfl, (blk_cell BKAa.out 4).trans rfl, (blk_cell BKAa.out 5).trans rfl⟩ (fun hHeld => ?_)
    clear hK K
    refine nq_ 17 ?_
    refine oq_ 6 56 HT_ (fun K hK => ?_)
    refine gs_ Try.func35 #[.agg #[.int .i64 tAg, .int .i64 tAm, .int .i64 tAn, .int .i64 tAp, .int .i64 tAq, .slice Ao85 tAj.length co85], .string tBi] ?_
    with_reducible refine (frame_Read.calls tAg tAm tAn tAp tAq _ _ tAj tBi tAs tAz tBb tBe tBg tAx tBq _ ?side1 ?side2 A17.out).mono ?_
    (case side1 => exact cC_ (Kd.R_reads' HOAh.out).2.2)
    (case side2 => exact (Kd.R_reads' HOAh.out).2.1)
    rintro e w105 ⟨vBs, rfl, ho0, hb⟩
    refine ⟨_, rfl, ?_⟩
    have HOAu := Aside0.mk (Kd.R_lower (Kd.R_new' (Kd.R_new' ho0 (Kd.R_lt (pR_ HOAi.out))) (Kd.R_lt (pR_ HOAk.out))) (below_size (pH_ HB.out)))
    replace HOAh := Aside0.mk (Kd.R_below (pR_ HOAh.out) hb)
    replace HOAi := Aside0.mk (Kd.R_elder' (pR_ HOAi.out) (Kd.R_base ho0) hb)
    replace HOAk := Aside0.mk (Kd.R_elder' (pR_ HOAk.out) (Kd.R_base ho0) hb)
    replace BKAe := Aside0.mk (blk_below (pB_ BKAe.out) hb)
    replace BKAd := Aside0.mk (blk_below (pB_ BKAd.out) hb)
    replace BKAa := Aside0.mk (blk_below (pB_ BKAa.out) hb)
    replace BKAb := Aside0.mk (blk_below (pB_ BKAb.out) hb)
    replace BKAc := Aside0.mk (blk_below (pB_ BKAc.out) hb)
    replace HB := Aside0.mk (below_step (pH_ HB.out) hb)
    (try clear hb)
    (try clear hb2)
    (try clear hk)
    (try clear hi)
    (try clear ho0)
    refine hK.out _ _ ⟨(blk_cell BKAa.out 0).trans rfl, (blk_cell BKAa.out 1).trans rfl, (blk_cell BKAa.out 2).trans rfl, (blk_cell BKAa.out 3).trans rfl, (blk_cell BKAa.out 4).trans rfl, (blk_cell BKAa.out 5).trans rfl⟩ (fun hHeld => ?_)
    clear hK K
    refine nq_ 56 ?_
    refine pq_ 7 49 HT_ ?_
    refine pq_ 8 57 HT_ ?_
    refine pq_ 9 58 HT_ ?_
    exact norm_ (by simp only [putAll, Act.put, List.setIfInBounds_toArray, List.set_cons_zero, List.set_cons_succ]) (hCont (vBs, gbAc) _ ⟨hHeld, (pR_ HOAh.out), (pR_ HOAi.out), (pR_ HOAk.out), (by (with_reducible repeat (first | apply Kd.R_alloc | apply Kd.R_drewN | apply Kd.R_drew)); exact Kd.R_mono HOAu.out (fun _ hk => ⟨hk.1.2, hk.2⟩)), (pB_ BKAe.out), (pB_ BKAd.out), (pB_ BKAa.out), (pB_ BKAb.out), (pB_ BKAc.out), GWAc.out, GEAc.out, NBAe_Ac.out, NBAc_Ae.out, NBAd_Ac.out, NBAc_Ad.out, NBAa_Ac.out, NBAc_Aa.out, NBAb_Ac.out, NBAc_Ab.out, (pH_ HB.out)⟩)
   skip
   refine box_step ?hg (N := 17) ?hd (cs := #[.int .i64 0, .int .i64 0, .int .i64 0, .int .i64 0, .int .i64 0, .slice none 0 0]) (t := 29) ?hr ?_; (case hd => rfl); (case hg => rfl); (case hr => first | (go_simp; done) | (go_simp; rfl))
   intro gbAc hg w104 hbox hb
   have BKAc := Aside0.mk (hbox)
   have GWAc := Aside0.mk ((by rw [hg]; exact (below_size (pH_ HB.out)) : w.heap.size ≤ gbAc))
   have GEAc := Aside0.mk ((by rw [hg]; exact (below_size (pH_ HB.out)) : w.heap.size ≤ gbAc))
   have NBAe_Ac := Aside0.mk (ltB_ hg BKAe.out)
   have NBAc_Ae := Aside0.mk (ltB_ hg BKAe.out).symm
   have NBAd_Ac := Aside0.mk (ltB_ hg BKAd.out)
   have NBAc_Ad := Aside0.mk (ltB_ hg BKAd.out).symm
   have NBAa_Ac := Aside0.mk (ltB_ hg BKAa.out)
   have NBAc_Aa := Aside0.mk (ltB_ hg BKAa.out).symm
   have NBAb_Ac := Aside0.mk (ltB_ hg BKAb.out)
   have NBAc_Ab := Aside0.mk (ltB_ hg BKAb.out).symm
   replace HOAh := Aside0.mk (Kd.R_below (pR_ HOAh.out) hb)
   replace HOAi := Aside0.mk (Kd.R_below (pR_ HOAi.out) hb)
   replace HOAk := Aside0.mk (Kd.R_below (pR_ HOAk.out) hb)
   replace BKAe := Aside0.mk (blk_below (pB_ BKAe.out) hb)
   replace BKAd := Aside0.mk (blk_below (pB_ BKAd.out) hb)
   replace BKAa := Aside0.mk (blk_below (pB_ BKAa.out) hb)
   replace BKAb := Aside0.mk (blk_below (pB_ BKAb.out) hb)
   replace HB := Aside0.mk (below_step (pH_ HB.out) hb)
   clear hb hbox hg
   refine hK.out _ _ ⟨(blk_cell BKAa.out 0).trans rfl, (blk_cell BKAa.out 1).trans rfl, (blk_cell BKAa.out 2).trans rfl, (blk_cell BKAa.out 3).trans rfl, (blk_cell BKAa.out 4).trans rfl, (blk_cell BKAa.out 5).trans rfl⟩ (fun hHeld => ?_)
   clear hK K
   refine nq_ 17 ?_
   refine oq_ 5 55 HT_ (fun K hK => ?_)
   refine gs_ Try.func32 #[.string tBn, .int .i64 tBc] ?_
   with_reducible refine (plaitingref1_Turn.calls k tBn tBc tBi _ A16.out).mono ?_
   rintro e w' ⟨rfl, ⟨nd, rfl⟩⟩
   refine ⟨_, rfl, ?_⟩
   refine hK.out _ _ ⟨(blk_cell BKAa.out 0).trans rfl, (blk_cell BKAa.out 1).trans rfl, (blk_cell BKAa.out 2).trans rfl, (blk_cell BKAa.out 3).trans rfl, (blk_cell BKAa.out 4).trans rfl, (blk_cell BKAa.out 5).trans rfl⟩ (fun hHeld => ?_)
   clear hK K
   refine nq_ 55 ?_
   refine oq_ 6 56 HT_ (fun K hK => ?_)
   refine gs_ Try.func35 #[.agg #[.int .i64 tAg, .int .i64 tAm, .int .i64 tAn, .int .i64 tAp, .int .i64 tAq, .slice Ao85 tAj.length co85], .string tBi] ?_
   with_reducible refine (frame_Read.calls tAg tAm tAn tAp tAq _ _ tAj tBi tAs tAz tBb tBe tBg tAx tBq _ ?side1 ?side2 A17.out).mono ?_
   (case side1 => exact cC_ (Kd.R_reads' HOAh.out).2.2)
   (case side2 => exact (Kd.R_reads' HOAh.out).2.1)
   rintro e w105 ⟨vBs, rfl, ho0, hb⟩
   refine ⟨_, rfl, ?_⟩
   have HOAu := Aside0.mk (Kd.R_lower (Kd.R_new' (Kd.R_new' ho0 (Kd.R_lt (pR_ HOAi.out))) (Kd.R_lt (pR_ HOAk.out))) (below_size (pH_ HB.out)))
   replace HOAh := Aside0.mk (Kd.R_below (pR_ HOAh.out) hb)
   replace HOAi := Aside0.mk (Kd.R_elder' (pR_ HOAi.out) (Kd.R_base ho0) hb)
   replace HOAk := Aside0.mk (Kd.R_elder' (pR_ HOAk.out) (Kd.R_base ho0) hb)
   replace BKAe := Aside0.mk (blk_below (pB_ BKAe.out) hb)
   replace BKAd := Aside0.mk (blk_below (pB_ BKAd.out) hb)
   replace BKAa := Aside0.mk (blk_below (pB_ BKAa.out) hb)
   replace BKAb := Aside0.mk (blk_below (pB_ BKAb.out) hb)
   replace BKAc := Aside0.mk (blk_below (pB_ BKAc.out) hb)
   replace HB := Aside0.mk (below_step (pH_ HB.out) hb)
   (try clear hb)
   (try clear hb2)
   (try clear hk)
   (try clear hi)
   (try clear ho0)
   refine hK.out _ _ ⟨(blk_cell BKAa.out 0).trans rfl, (blk_cell BKAa.out 1).trans rfl, (blk_cell BKAa.out 2).trans rfl, (blk_cell BKAa.out 3).trans rfl, (blk_cell BKAa.out 4).trans rfl, (blk_cell BKAa.out 5).trans rfl⟩ (fun hHeld => ?_)
   clear hK K
   refine nq_ 56 ?_
   refine pq_ 7 49 HT_ ?_
   refine pq_ 8 57 HT_ ?_
   refine pq_ 9 58 HT_ ?_
   exact norm_ (by simp only [putAll, Act.put, List.setIfInBounds_toArray, List.set_cons_zero, List.set_cons_succ]) (hCont (vBs, gbAc) _ ⟨hHeld, (pR_ HOAh.out), (pR_ HOAi.out), (pR_ HOAk.out), (by (with_reducible repeat (first | apply Kd.R_alloc | apply Kd.R_drewN | apply Kd.R_drew)); exact Kd.R_mono HOAu.out (fun _ hk => ⟨hk.1.2, hk.2⟩)), (pB_ BKAe.out), (pB_ BKAd.out), (pB_ BKAa.out), (pB_ BKAb.out), (pB_ BKAc.out), GWAc.out, GEAc.out, NBAe_Ac.out, NBAc_Ae.out, NBAd_Ac.out, NBAc_Ad.out, NBAa_Ac.out, NBAc_Aa.out, NBAb_Ac.out, NBAc_Ab.out, (pH_ HB.out)⟩)
  skip
  refine box_step ?hg (N := 17) ?hd (cs := #[.int .i64 0, .int .i64 0, .int .i64 0, .int .i64 0, .int .i64 0, .slice none 0 0]) (t := 29) ?hr ?_; (case hd => rfl); (case hg => rfl); (case hr => first | (go_simp; done) | (go_simp; rfl))
  intro gbAc hg w104 hbox hb
  have BKAc := Aside0.mk (hbox)
  have GWAc := Aside0.mk ((by rw [hg]; exact (below_size (pH_ HB.out)) : w.heap.size ≤ gbAc))
  have GEAc := Aside0.mk ((by rw [hg]; exact (below_size (pH_ HB.out)) : w.heap.size ≤ gbAc))
  have NBAe_Ac := Aside0.mk (ltB_ hg BKAe.out)
  have NBAc_Ae := Aside0.mk (ltB_ hg BKAe.out).symm
  have NBAd_Ac := Aside0.mk (ltB_ hg BKAd.out)
  have NBAc_Ad := Aside0.mk (ltB_ hg BKAd.out).symm
  have NBAa_Ac := Aside0.mk (ltB_ hg BKAa.out)
  have NBAc_Aa := Aside0.mk (ltB_ hg BKAa.out).symm
  have NBAb_Ac := Aside0.mk (ltB_ hg BKAb.out)
  have NBAc_Ab := Aside0.mk (ltB_ hg BKAb.out).symm
  replace HOAh := Aside0.mk (Kd.R_below (pR_ HOAh.out) hb)
  replace HOAi := Aside0.mk (Kd.R_below (pR_ HOAi.out) hb)
  replace HOAk := Aside0.mk (Kd.R_below (pR_ HOAk.out) hb)
  replace BKAe := Aside0.mk (blk_below (pB_ BKAe.out) hb)
  replace BKAd := Aside0.mk (blk_below (pB_ BKAd.out) hb)
  replace BKAa := Aside0.mk (blk_below (pB_ BKAa.out) hb)
  replace BKAb := Aside0.mk (blk_below (pB_ BKAb.out) hb)
  replace HB := Aside0.mk (below_step (pH_ HB.out) hb)
  clear hb hbox hg
  refine hK.out _ _ ⟨(blk_cell BKAa.out 0).trans rfl, (blk_cell BKAa.out 1).trans rfl, (blk_cell BKAa.out 2).trans rfl, (blk_cell BKAa.out 3).trans rfl, (blk_cell BKAa.out 4).trans rfl, (blk_cell BKAa.out 5).trans rfl⟩ (fun hHeld => ?_)
  clear hK K
  refine nq_ 17 ?_
  refine oq_ 3 53 HT_ (fun K hK => ?_)
  refine gs_ Try.func32 #[.string tAr, .int .i64 tAy] ?_
  with_reducible refine (plaitingref1_Turn.calls k tAr tAy tBn _ A15.out).mono ?_
  rintro e w' ⟨rfl, ⟨nd, rfl⟩⟩
  refine ⟨_, rfl, ?_⟩
  refine hK.out _ _ ⟨(blk_cell BKAa.out 0).trans rfl, (blk_cell BKAa.out 1).trans rfl, (blk_cell BKAa.out 2).trans rfl, (blk_cell BKAa.out 3).trans rfl, (blk_cell BKAa.out 4).trans rfl, (blk_cell BKAa.out 5).trans rfl⟩ (fun hHeld => ?_)
  clear hK K
  refine nq_ 53 ?_
  refine oq_ 5 55 HT_ (fun K hK => ?_)
  refine gs_ Try.func32 #[.string tBn, .int .i64 tBc] ?_
  with_reducible refine (plaitingref1_Turn.calls k tBn tBc tBi _ A16.out).mono ?_
  rintro e w' ⟨rfl, ⟨nd, rfl⟩⟩
  refine ⟨_, rfl, ?_⟩
  refine hK.out _ _ ⟨(blk_cell BKAa.out 0).trans rfl, (blk_cell BKAa.out 1).trans rfl, (blk_cell BKAa.out 2).trans rfl, (blk_cell BKAa.out 3).trans rfl, (blk_cell BKAa.out 4).trans rfl, (blk_cell BKAa.out 5).trans rfl⟩ (fun hHeld => ?_)
  clear hK K
  refine nq_ 55 ?_
  refine oq_ 6 56 HT_ (fun K hK => ?_)
  refine gs_ Try.func35 #[.agg #[.int .i64 tAg, .int .i64 tAm, .int .i64 tAn, .int .i64 tAp, .int .i64 tAq, .slice Ao85 tAj.length co85], .string tBi] ?_
  with_reducible refine (frame_Read.calls tAg tAm tAn tAp tAq _ _ tAj tBi tAs tAz tBb tBe tBg tAx tBq _ ?side1 ?side2 A17.out).mono ?_
  (case side1 => exact cC_ (Kd.R_reads' HOAh.out).2.2)
  (case side2 => exact (Kd.R_reads' HOAh.out).2.1)
  rintro e w105 ⟨vBs, rfl, ho0, hb⟩
  refine ⟨_, rfl, ?_⟩
  have HOAu := Aside0.mk (Kd.R_lower (Kd.R_new' (Kd.R_new' ho0 (Kd.R_lt (pR_ HOAi.out))) (Kd.R_lt (pR_ HOAk.out))) (below_size (pH_ HB.out)))
  replace HOAh := Aside0.mk (Kd.R_below (pR_ HOAh.out) hb)
  replace HOAi := Aside0.mk (Kd.R_elder' (pR_ HOAi.out) (Kd.R_base ho0) hb)
  replace HOAk := Aside0.mk (Kd.R_elder' (pR_ HOAk.out) (Kd.R_base ho0) hb)
  replace BKAe := Aside0.mk (blk_below (pB_ BKAe.out) hb)
  replace BKAd := Aside0.mk (blk_below (pB_ BKAd.out) hb)
  replace BKAa := Aside0.mk (blk_below (pB_ BKAa.out) hb)
  replace BKAb := Aside0.mk (blk_below (pB_ BKAb.out) hb)
  replace BKAc := Aside0.mk (blk_below (pB_ BKAc.out) hb)
  replace HB := Aside0.mk (below_step (pH_ HB.out) hb)
  (try clear hb)
  (try clear hb2)
  (try clear hk)
  (try clear hi)
  (try clear ho0)
  refine hK.out _ _ ⟨(blk_cell BKAa.out 0).trans rfl, (blk_cell BKAa.out 1).trans rfl, (blk_cell BKAa.out 2).trans rfl, (blk_cell BKAa.out 3).trans rfl, (blk_cell BKAa.out 4).trans rfl, (blk_cell BKAa.out 5).trans rfl⟩ (fun hHeld => ?_)
  clear hK K
  refine nq_ 56 ?_
  refine pq_ 7 49 HT_ ?_
  refine pq_ 8 57 HT_ ?_
  refine pq_ 9 58 HT_ ?_
  exact norm_ (by simp only [putAll, Act.put, List.setIfInBounds_toArray, List.set_cons_zero, List.set_cons_succ]) (hCont (vBs, gbAc) _ ⟨hHeld, (pR_ HOAh.out), (pR_ HOAi.out), (pR_ HOAk.out), (by (with_reducible repeat (first | apply Kd.R_alloc | apply Kd.R_drewN | apply Kd.R_drew)); exact Kd.R_mono HOAu.out (fun _ hk => ⟨hk.1.2, hk.2⟩)), (pB_ BKAe.out), (pB_ BKAd.out), (pB_ BKAa.out), (pB_ BKAb.out), (pB_ BKAc.out), GWAc.out, GEAc.out, NBAe_Ac.out, NBAc_Ae.out, NBAd_Ac.out, NBAc_Ad.out, NBAa_Ac.out, NBAc_Aa.out, NBAb_Ac.out, NBAc_Ab.out, (pH_ HB.out)⟩)
 rintro ⟨vBs, gbAc⟩ w106 ⟨hS_, h0_, h1_, h2_, h3_, h4_, h5_, h6_, h7_, h8_, h9_, h10_, h11_, h12_, h13_, h14_, h15_, h16_, h17_, h18_, h19_⟩
 have n0_ : Aside0 (Kd.R (Kd.int .i64) 3 w106 w.heap.size (fun _ => True) (.slice Ao85 tAj.length co85) tAj) := ⟨h0_⟩
 have n1_ : Aside0 (Kd.R k26 26 w106 w.heap.size (fun k_ => some k_ ≠ (.slice Ao100 tAt.length co100 : Value).ownBlock ∧ some k_ ≠ (vBs : Value).ownBlock) (.slice Ao89 tAw.length co89) tAw) := ⟨h1_⟩
 have n2_ : Aside0 (Kd.R k26 26 w106 w.heap.size (fun k_ => some k_ ≠ (.slice Ao89 tAw.length co89 : Value).ownBlock ∧ some k_ ≠ (vBs : Value).ownBlock) (.slice Ao100 tAt.length co100) tAt) := ⟨h2_⟩
 have n3_ : Aside0 (Kd.R k26 26 w106 w.heap.size (fun k_ => some k_ ≠ (.slice Ao89 tAw.length co89 : Value).ownBlock ∧ some k_ ≠ (.slice Ao100 tAt.length co100 : Value).ownBlock) vBs tAx) := ⟨h3_⟩
 have n4_ : Aside0 (w106.heap[gbAe]? = some (.cells #[.int .i64 a0_0, .int .i64 a0_1, .int .i64 a0_2, .int .i64 a0_3, .int .i64 a0_4, .slice A0_5 l0_5.length c0_5] 24 (0, 0))) := ⟨h4_⟩
 have n5_ : Aside0 (w106.heap[gbAd]? = some (.cells #[.int .i64 a1_0, .int .i64 a1_1, .int .i64 a1_2, .int .i64 a1_3, .int .i64 a1_4, .slice A1_5 l1_5.length c1_5] 29 (0, 0))) := ⟨h5_⟩
 have n6_ : Aside0 (w106.heap[gbAa]? = some (.cells #[.int .i64 tAg, .int .i64 tAm, .int .i64 tAn, .int .i64 tAp, .int .i64 tAq, .slice Ao85 tAj.length co85] 24 (0, 0))) := ⟨h6_⟩
 have n7_ : Aside0 (w106.heap[gbAb]? = some (.cells #[.int .i64 tAv, .int .i64 tBa, .int .i64 tBd, .int .i64 tBf, .int .i64 tBh, .slice Ao100 tAt.length co100] 29 (0, 0))) := ⟨h7_⟩
 have n8_ : Aside0 (w106.heap[gbAc]? = some (.cells #[.int .i64 0, .int .i64 0, .int .i64 0, .int .i64 0, .int .i64 0, .slice none 0 0] 29 (0, 0))) := ⟨h8_⟩
 have n9_ : Aside0 (w.heap.size ≤ gbAc) := ⟨h9_⟩
 have n10_ : Aside0 (w.heap.size ≤ gbAc) := ⟨h10_⟩
 have n11_ : Aside0 (gbAe ≠ gbAc) := ⟨h11_⟩
 have n12_ : Aside0 (gbAc ≠ gbAe) := ⟨h12_⟩
 have n13_ : Aside0 (gbAd ≠ gbAc) := ⟨h13_⟩
 have n14_ : Aside0 (gbAc ≠ gbAd) := ⟨h14_⟩
 have n15_ : Aside0 (gbAa ≠ gbAc) := ⟨h15_⟩
 have n16_ : Aside0 (gbAc ≠ gbAa) := ⟨h16_⟩
 have n17_ : Aside0 (gbAb ≠ gbAc) := ⟨h17_⟩
 have n18_ : Aside0 (gbAc ≠ gbAb) := ⟨h18_⟩
 have n19_ : Aside0 (Below w.heap.size w w106) := ⟨h19_⟩
 clear HOAh
 clear HOAi
 clear HOAk
 clear BKAe
 clear BKAd
 clear BKAa
 clear BKAb
 clear HB
 clear h0_ h1_ h2_ h3_ h4_ h5_ h6_ h7_ h8_ h9_ h10_ h11_ h12_ h13_ h14_ h15_ h16_ h17_ h18_ h19_
 have HOAh := n0_
 have HOAi := n1_
 have HOAk := n2_
 have HOAu := n3_
 have BKAe := n4_
 have BKAd := n5_
 have BKAa := n6_
 have BKAb := n7_
 have BKAc := n8_
 have GWAc := n9_
 have GEAc := n10_
 have NBAe_Ac := n11_
 have NBAc_Ae := n12_
 have NBAd_Ac := n13_
 have NBAc_Ad := n14_
 have NBAa_Ac := n15_
 have NBAc_Aa := n16_
 have NBAb_Ac := n17_
 have NBAc_Ab := n18_
 have HB := n19_
 clear n0_ n1_ n2_ n3_ n4_ n5_ n6_ n7_ n8_ n9_ n10_ n11_ n12_ n13_ n14_ n15_ n16_ n17_ n18_ n19_
 have hHeld : w106.cell? ⟨gbAa, 0, none⟩ = some (.int .i64 tAg) ∧ w106.cell? ⟨gbAa, 1, none⟩ = some (.int .i64 tAm) ∧ w106.cell? ⟨gbAa, 2, none⟩ = some (.int .i64 tAn) ∧ w106.cell? ⟨gbAa, 3, none⟩ = some (.int .i64 tAp) ∧ w106.cell? ⟨gbAa, 4, none⟩ = some (.int .i64 tAq) ∧ w106.cell? ⟨gbAa, 5, none⟩ = some (.slice Ao85 tAj.length co85) := hS_
 obtain ⟨Ao112, co112, eo112⟩ := Kd.R_slice HOAu.out
 (first | subst eo112 | (injection eo112 with f1_ f2_ f3_; have f4_ := f1_.symm; have f5_ := f3_.symm; clear f1_ f2_ f3_; subst f4_; subst f5_))
 refine norm_ (a' := ?_) ?_ ?_
 rotate_left
 ·
  simp only [putAll, Act.put, List.setIfInBounds_toArray, List.set_cons_zero, List.set_cons_succ]
  rfl
 refine one_ (i := 11) (N := none) #[true, true, true, true, true, true, true, true, true, true, true, true, false] rfl rfl (one_of HT_.out (by kernel_rfl)) (by decide) (fun K hK => ?_)
 have hs107 : w106.cell? ⟨gbAc, 0, none⟩ = some (.int .i64 0) := (blk_cell BKAc.out 0).trans rfl
 have hfs107 := blk_frozen BKAc.out 0
 have hns107_0 := NBAe_Ac.out
 have hns107_1 := NBAd_Ac.out
 have hns107_2 := NBAa_Ac.out
 have hns107_3 := NBAb_Ac.out
 have hms107_0 := NBAc_Ae.out
 have hms107_1 := NBAc_Ad.out
 have hms107_2 := NBAc_Aa.out
 have hms107_3 := NBAc_Ab.out
 have hs108 : w106.cell? ⟨gbAc, 1, none⟩ = some (.int .i64 0) := (blk_cell BKAc.out 1).trans rfl
 have hfs108 := blk_frozen BKAc.out 1
 have hns108_0 := NBAe_Ac.out
 have hns108_1 := NBAd_Ac.out
 have hns108_2 := NBAa_Ac.out
 have hns108_3 := NBAb_Ac.out
 have hms108_0 := NBAc_Ae.out
 have hms108_1 := NBAc_Ad.out
 have hms108_2 := NBAc_Aa.out
 have hms108_3 := NBAc_Ab.out
 have hs109 : w106.cell? ⟨gbAc, 2, none⟩ = some (.int .i64 0) := (blk_cell BKAc.out 2).trans rfl
 have hfs109 := blk_frozen BKAc.out 2
 have hns109_0 := NBAe_Ac.out
 have hns109_1 := NBAd_Ac.out
 have hns109_2 := NBAa_Ac.out
 have hns109_3 := NBAb_Ac.out
 have hms109_0 := NBAc_Ae.out
 have hms109_1 := NBAc_Ad.out
 have hms109_2 := NBAc_Aa.out
 have hms109_3 := NBAc_Ab.out
 have hs110 : w106.cell? ⟨gbAc, 3, none⟩ = some (.int .i64 0) := (blk_cell BKAc.out 3).trans rfl
 have hfs110 := blk_frozen BKAc.out 3
 have hns110_0 := NBAe_Ac.out
 have hns110_1 := NBAd_Ac.out
 have hns110_2 := NBAa_Ac.out
 have hns110_3 := NBAb_Ac.out
 have hms110_0 := NBAc_Ae.out
 have hms110_1 := NBAc_Ad.out
 have hms110_2 := NBAc_Aa.out
 have hms110_3 := NBAc_Ab.out
 have hs111 : w106.cell? ⟨gbAc, 4, none⟩ = some (.int .i64 0) := (blk_cell BKAc.out 4).trans rfl
 have hfs111 := blk_frozen BKAc.out 4
 have hns111_0 := NBAe_Ac.out
 have hns111_1 := NBAd_Ac.out
 have hns111_2 := NBAa_Ac.out
 have hns111_3 := NBAb_Ac.out
 have hms111_0 := NBAc_Ae.out
 have hms111_1 := NBAc_Ad.out
 have hms111_2 := NBAc_Aa.out
 have hms111_3 := NBAc_Ab.out
 have hs113 : w106.cell? ⟨gbAc, 5, none⟩ = some (.slice none 0 0) := (blk_cell BKAc.out 5).trans rfl
 have hfs113 := blk_frozen BKAc.out 5
 have hns113_0 := NBAe_Ac.out
 have hns113_1 := NBAd_Ac.out
 have hns113_2 := NBAa_Ac.out
 have hns113_3 := NBAb_Ac.out
 have hms113_0 := NBAc_Ae.out
 have hms113_1 := NBAc_Ad.out
 have hms113_2 := NBAc_Aa.out
 have hms113_3 := NBAc_Ab.out
 refine skip_ (w1 := ?_) (by rfl) rfl ?_ ?_
 rotate_left
 ·
  go_simp
  rfl
 refine hK.out _ _ ⟨((cell_far (p := ⟨gbAc, _, none⟩) NBAa_Ac.out _).trans (((cell_far (p := ⟨gbAc, _, none⟩) NBAa_Ac.out _).trans (((cell_far (p := ⟨gbAc, _, none⟩) NBAa_Ac.out _).trans (((cell_far (p := ⟨gbAc, _, none⟩) NBAa_Ac.out _).trans (((cell_far (p := ⟨gbAc, _, none⟩) NBAa_Ac.out _).trans (((cell_far (p := ⟨gbAc, _, none⟩) NBAa_Ac.out _).trans (hHeld.1)))))))))))), ((cell_far (p := ⟨gbAc, _, none⟩) NBAa_Ac.out _).trans (((cell_far (p := ⟨gbAc, _, none⟩) NBAa_Ac.out _).trans (((cell_far (p := ⟨gbAc, _, none⟩) NBAa_Ac.out _).trans (((cell_far (p := ⟨gbAc, _, none⟩) NBAa_Ac.out _).trans (((cell_far (p := ⟨gbAc, _, none⟩) NBAa_Ac.out _).trans (((cell_far (p := ⟨gbAc, _, none⟩) NBAa_Ac.out _).trans (hHeld.2.1)))))))))))), ((cell_far (p := ⟨gbAc, _, none⟩) NBAa_Ac.out _).trans (((cell_far (p := ⟨gbAc, _, none⟩) NBAa_Ac.out _).trans (((cell_far (p := ⟨gbAc, _, none⟩) NBAa_Ac.out _).trans (((cell_far (p := ⟨gbAc, _, none⟩) NBAa_Ac.out _).trans (((cell_far (p := ⟨gbAc, _, none⟩) NBAa_Ac.out _).trans (((cell_far (p := ⟨gbAc, _, none⟩) NBAa_Ac.out _).trans (hHeld.2.2.1)))))))))))), ((cell_far (p := ⟨gbAc, _, none⟩) NBAa_Ac.out _).trans (((cell_far (p := ⟨gbAc, _, none⟩) NBAa_Ac.out _).trans (((cell_far (p := ⟨gbAc, _, none⟩) NBAa_Ac.out _).trans (((cell_far (p := ⟨gbAc, _, none⟩) NBAa_Ac.out _).trans (((cell_far (p := ⟨gbAc, _, none⟩) NBAa_Ac.out _).trans (((cell_far (p := ⟨gbAc, _, none⟩) NBAa_Ac.out _).trans (hHeld.2.2.2.1)))))))))))), ((cell_far (p := ⟨gbAc, _, none⟩) NBAa_Ac.out _).trans (((cell_far (p := ⟨gbAc, _, none⟩) NBAa_Ac.out _).trans (((cell_far (p := ⟨gbAc, _, none⟩) NBAa_Ac.out _).trans (((cell_far (p := ⟨gbAc, _, none⟩) NBAa_Ac.out _).trans (((cell_far (p := ⟨gbAc, _, none⟩) NBAa_Ac.out _).trans (((cell_far (p := ⟨gbAc, _, none⟩) NBAa_Ac.out _).trans (hHeld.2.2.2.2.1)))))))))))), ((cell_far (p := ⟨gbAc, _, none⟩) NBAa_Ac.out _).trans (((cell_far (p := ⟨gbAc, _, none⟩) NBAa_Ac.out _).trans (((cell_far (p := ⟨gbAc, _, none⟩) NBAa_Ac.out _).trans (((cell_far (p := ⟨gbAc, _, none⟩) NBAa_Ac.out _).trans (((cell_far (p := ⟨gbAc, _, none⟩) NBAa_Ac.out _).trans (((cell_far (p := ⟨gbAc, _, none⟩) NBAa_Ac.out _).trans (hHeld.2.2.2.2.2))))))))))))⟩ (fun hHeld => ?_)
 clear hK K
 refine pq_ 12 18 HT_ ?_
 refine done_ (done_of HT_.out (by kernel_rfl)) ?_
 try go_wp2
 (try (rw [drewN_self w106]; generalize hq_ : World.drewN w106 _ = w106; have n0_ := Aside0.mk (Kd.R_at hq_ HOAh.out); have n1_ := Aside0.mk (Kd.R_at hq_ HOAi.out); have n2_ := Aside0.mk (Kd.R_at hq_ HOAk.out); have n3_ := Aside0.mk (Kd.R_at hq_ HOAu.out); have n4_ := Aside0.mk (blk_at hq_ BKAe.out); have n5_ := Aside0.mk (blk_at hq_ BKAd.out); have n6_ := Aside0.mk (blk_at hq_ BKAa.out); have n7_ := Aside0.mk (blk_at hq_ BKAb.out); have n8_ := Aside0.mk (blk_at hq_ BKAc.out); have n9_ := Aside0.mk (below_at hq_ HB.out); clear hq_ HOAh HOAi HOAk HOAu BKAe BKAd BKAa BKAb BKAc HB; have HOAh := n0_; have HOAi := n1_; have HOAk := n2_; have HOAu := n3_; have BKAe := n4_; have BKAd := n5_; have BKAa := n6_; have BKAb := n7_; have BKAc := n8_; have HB := n9_; clear n0_ n1_ n2_ n3_ n4_ n5_ n6_ n7_ n8_ n9_))
 have n0_ : Aside0 (Kd.R (Kd.int .i64) 3 ((((((w106.setCell ⟨gbAc, 0, none⟩ (.int .i64 tAs)).setCell ⟨gbAc, 1, none⟩ (.int .i64 tAz)).setCell ⟨gbAc, 2, none⟩ (.int .i64 tBb)).setCell ⟨gbAc, 3, none⟩ (.int .i64 tBe)).setCell ⟨gbAc, 4, none⟩ (.int .i64 tBg)).setCell ⟨gbAc, 5, none⟩ (.slice Ao112 tAx.length co112)) w.heap.size (fun _ => True) (.slice Ao85 tAj.length co85) tAj) := ⟨by (with_reducible repeat (first | apply Kd.R_alloc | apply Kd.R_drewN | apply Kd.R_drew)); exact Kd.R_mono (Kd.R_far (p := ⟨gbAc, 5, none⟩) (Kd.R_far (p := ⟨gbAc, 4, none⟩) (Kd.R_far (p := ⟨gbAc, 3, none⟩) (Kd.R_far (p := ⟨gbAc, 2, none⟩) (Kd.R_far (p := ⟨gbAc, 1, none⟩) (Kd.R_far (p := ⟨gbAc, 0, none⟩) (Kd.R_types HOAh.out BKAc.out (by decide)) (fun _ hk => hk.2) (.int .i64 tAs)) (fun _ hk => hk.2) (.int .i64 tAz)) (fun _ hk => hk.2) (.int .i64 tBb)) (fun _ hk => hk.2) (.int .i64 tBe)) (fun _ hk => hk.2) (.int .i64 tBg)) (fun _ hk => hk.2) (.slice Ao112 tAx.length co112)) (fun _ hk => trivial)⟩
 have n1_ : Aside0 (Kd.R k26 26 ((((((w106.setCell ⟨gbAc, 0, none⟩ (.int .i64 tAs)).setCell ⟨gbAc, 1, none⟩ (.int .i64 tAz)).setCell ⟨gbAc, 2, none⟩ (.int .i64 tBb)).setCell ⟨gbAc, 3, none⟩ (.int .i64 tBe)).setCell ⟨gbAc, 4, none⟩ (.int .i64 tBg)).setCell ⟨gbAc, 5, none⟩ (.slice Ao112 tAx.length co112)) w.heap.size (fun k_ => some k_ ≠ (.slice Ao100 tAt.length co100 : Value).ownBlock ∧ some k_ ≠ (.slice Ao112 tAx.length co112 : Value).ownBlock) (.slice Ao89 tAw.length co89) tAw) := ⟨by (with_reducible repeat (first | apply Kd.R_alloc | apply Kd.R_drewN | apply Kd.R_drew)); exact Kd.R_mono (Kd.R_far (p := ⟨gbAc, 5, none⟩) (Kd.R_far (p := ⟨gbAc, 4, none⟩) (Kd.R_far (p := ⟨gbAc, 3, none⟩) (Kd.R_far (p := ⟨gbAc, 2, none⟩) (Kd.R_far (p := ⟨gbAc, 1, none⟩) (Kd.R_far (p := ⟨gbAc, 0, none⟩) (Kd.R_types HOAi.out BKAc.out (by decide)) (fun _ hk => hk.2) (.int .i64 tAs)) (fun _ hk => hk.2) (.int .i64 tAz)) (fun _ hk => hk.2) (.int .i64 tBb)) (fun _ hk => hk.2) (.int .i64 tBe)) (fun _ hk => hk.2) (.int .i64 tBg)) (fun _ hk => hk.2) (.slice Ao112 tAx.length co112)) (fun _ hk => ⟨hk.1.1, hk.1.2⟩)⟩
 have n2_ : Aside0 (Kd.R k26 26 ((((((w106.setCell ⟨gbAc, 0, none⟩ (.int .i64 tAs)).setCell ⟨gbAc, 1, none⟩ (.int .i64 tAz)).setCell ⟨gbAc, 2, none⟩ (.int .i64 tBb)).setCell ⟨gbAc, 3, none⟩ (.int .i64 tBe)).setCell ⟨gbAc, 4, none⟩ (.int .i64 tBg)).setCell ⟨gbAc, 5, none⟩ (.slice Ao112 tAx.length co112)) w.heap.size (fun k_ => some k_ ≠ (.slice Ao89 tAw.length co89 : Value).ownBlock ∧ some k_ ≠ (.slice Ao112 tAx.length co112 : Value).ownBlock) (.slice Ao100 tAt.length co100) tAt) := ⟨by (with_reducible repeat (first | apply Kd.R_alloc | apply Kd.R_drewN | apply Kd.R_drew)); exact Kd.R_mono (Kd.R_far (p := ⟨gbAc, 5, none⟩) (Kd.R_far (p := ⟨gbAc, 4, none⟩) (Kd.R_far (p := ⟨gbAc, 3, none⟩) (Kd.R_far (p := ⟨gbAc, 2, none⟩) (Kd.R_far (p := ⟨gbAc, 1, none⟩) (Kd.R_far (p := ⟨gbAc, 0, none⟩) (Kd.R_types HOAk.out BKAc.out (by decide)) (fun _ hk => hk.2) (.int .i64 tAs)) (fun _ hk => hk.2) (.int .i64 tAz)) (fun _ hk => hk.2) (.int .i64 tBb)) (fun _ hk => hk.2) (.int .i64 tBe)) (fun _ hk => hk.2) (.int .i64 tBg)) (fun _ hk => hk.2) (.slice Ao112 tAx.length co112)) (fun _ hk => ⟨hk.1.1, hk.1.2⟩)⟩
 have n3_ : Aside0 (Kd.R k26 26 ((((((w106.setCell ⟨gbAc, 0, none⟩ (.int .i64 tAs)).setCell ⟨gbAc, 1, none⟩ (.int .i64 tAz)).setCell ⟨gbAc, 2, none⟩ (.int .i64 tBb)).setCell ⟨gbAc, 3, none⟩ (.int .i64 tBe)).setCell ⟨gbAc, 4, none⟩ (.int .i64 tBg)).setCell ⟨gbAc, 5, none⟩ (.slice Ao112 tAx.length co112)) w.heap.size (fun k_ => some k_ ≠ (.slice Ao89 tAw.length co89 : Value).ownBlock ∧ some k_ ≠ (.slice Ao100 tAt.length co100 : Value).ownBlock) (.slice Ao112 tAx.length co112) tAx) := ⟨by (with_reducible repeat (first | apply Kd.R_alloc | apply Kd.R_drewN | apply Kd.R_drew)); exact Kd.R_mono (Kd.R_far (p := ⟨gbAc, 5, none⟩) (Kd.R_far (p := ⟨gbAc, 4, none⟩) (Kd.R_far (p := ⟨gbAc, 3, none⟩) (Kd.R_far (p := ⟨gbAc, 2, none⟩) (Kd.R_far (p := ⟨gbAc, 1, none⟩) (Kd.R_far (p := ⟨gbAc, 0, none⟩) (Kd.R_types HOAu.out BKAc.out (by decide)) (fun _ hk => hk.2) (.int .i64 tAs)) (fun _ hk => hk.2) (.int .i64 tAz)) (fun _ hk => hk.2) (.int .i64 tBb)) (fun _ hk => hk.2) (.int .i64 tBe)) (fun _ hk => hk.2) (.int .i64 tBg)) (fun _ hk => hk.2) (.slice Ao112 tAx.length co112)) (fun _ hk => ⟨hk.1.1, hk.1.2⟩)⟩
 have n4_ : Aside0 (((((((w106.setCell ⟨gbAc, 0, none⟩ (.int .i64 tAs)).setCell ⟨gbAc, 1, none⟩ (.int .i64 tAz)).setCell ⟨gbAc, 2, none⟩ (.int .i64 tBb)).setCell ⟨gbAc, 3, none⟩ (.int .i64 tBe)).setCell ⟨gbAc, 4, none⟩ (.int .i64 tBg)).setCell ⟨gbAc, 5, none⟩ (.slice Ao112 tAx.length co112)).heap[gbAe]? = some (.cells #[.int .i64 a0_0, .int .i64 a0_1, .int .i64 a0_2, .int .i64 a0_3, .int .i64 a0_4, .slice A0_5 l0_5.length c0_5] 24 (0, 0))) := ⟨by (with_reducible repeat (first | refine blk_drewN ?_ _ | refine blk_drew ?_ | refine blk_alloc ?_ _)); refine blk_far ?_ NBAe_Ac.out _; refine blk_far ?_ NBAe_Ac.out _; refine blk_far ?_ NBAe_Ac.out _; refine blk_far ?_ NBAe_Ac.out _; refine blk_far ?_ NBAe_Ac.out _; refine blk_far ?_ NBAe_Ac.out _; (with_reducible repeat (first | refine blk_drewN ?_ _ | refine blk_drew ?_ | refine blk_alloc ?_ _)); exact BKAe.out⟩
 have n5_ : Aside0 (((((((w106.setCell ⟨gbAc, 0, none⟩ (.int .i64 tAs)).setCell ⟨gbAc, 1, none⟩ (.int .i64 tAz)).setCell ⟨gbAc, 2, none⟩ (.int .i64 tBb)).setCell ⟨gbAc, 3, none⟩ (.int .i64 tBe)).setCell ⟨gbAc, 4, none⟩ (.int .i64 tBg)).setCell ⟨gbAc, 5, none⟩ (.slice Ao112 tAx.length co112)).heap[gbAd]? = some (.cells #[.int .i64 a1_0, .int .i64 a1_1, .int .i64 a1_2, .int .i64 a1_3, .int .i64 a1_4, .slice A1_5 l1_5.length c1_5] 29 (0, 0))) := ⟨by (with_reducible repeat (first | refine blk_drewN ?_ _ | refine blk_drew ?_ | refine blk_alloc ?_ _)); refine blk_far ?_ NBAd_Ac.out _; refine blk_far ?_ NBAd_Ac.out _; refine blk_far ?_ NBAd_Ac.out _; refine blk_far ?_ NBAd_Ac.out _; refine blk_far ?_ NBAd_Ac.out _; refine blk_far ?_ NBAd_Ac.out _; (with_reducible repeat (first | refine blk_drewN ?_ _ | refine blk_drew ?_ | refine blk_alloc ?_ _)); exact BKAd.out⟩
 have n6_ : Aside0 (((((((w106.setCell ⟨gbAc, 0, none⟩ (.int .i64 tAs)).setCell ⟨gbAc, 1, none⟩ (.int .i64 tAz)).setCell ⟨gbAc, 2, none⟩ (.int .i64 tBb)).setCell ⟨gbAc, 3, none⟩ (.int .i64 tBe)).setCell ⟨gbAc, 4, none⟩ (.int .i64 tBg)).setCell ⟨gbAc, 5, none⟩ (.slice Ao112 tAx.length co112)).heap[gbAa]? = some (.cells #[.int .i64 tAg, .int .i64 tAm, .int .i64 tAn, .int .i64 tAp, .int .i64 tAq, .slice Ao85 tAj.length co85] 24 (0, 0))) := ⟨by (with_reducible repeat (first | refine blk_drewN ?_ _ | refine blk_drew ?_ | refine blk_alloc ?_ _)); refine blk_far ?_ NBAa_Ac.out _; refine blk_far ?_ NBAa_Ac.out _; refine blk_far ?_ NBAa_Ac.out _; refine blk_far ?_ NBAa_Ac.out _; refine blk_far ?_ NBAa_Ac.out _; refine blk_far ?_ NBAa_Ac.out _; (with_reducible repeat (first | refine blk_drewN ?_ _ | refine blk_drew ?_ | refine blk_alloc ?_ _)); exact BKAa.out⟩
 have n7_ : Aside0 (((((((w106.setCell ⟨gbAc, 0, none⟩ (.int .i64 tAs)).setCell ⟨gbAc, 1, none⟩ (.int .i64 tAz)).setCell ⟨gbAc, 2, none⟩ (.int .i64 tBb)).setCell ⟨gbAc, 3, none⟩ (.int .i64 tBe)).setCell ⟨gbAc, 4, none⟩ (.int .i64 tBg)).setCell ⟨gbAc, 5, none⟩ (.slice Ao112 tAx.length co112)).heap[gbAb]? = some (.cells #[.int .i64 tAv, .int .i64 tBa, .int .i64 tBd, .int .i64 tBf, .int .i64 tBh, .slice Ao100 tAt.length co100] 29 (0, 0))) := ⟨by (with_reducible repeat (first | refine blk_drewN ?_ _ | refine blk_drew ?_ | refine blk_alloc ?_ _)); refine blk_far ?_ NBAb_Ac.out _; refine blk_far ?_ NBAb_Ac.out _; refine blk_far ?_ NBAb_Ac.out _; refine blk_far ?_ NBAb_Ac.out _; refine blk_far ?_ NBAb_Ac.out _; refine blk_far ?_ NBAb_Ac.out _; (with_reducible repeat (first | refine blk_drewN ?_ _ | refine blk_drew ?_ | refine blk_alloc ?_ _)); exact BKAb.out⟩
 have n8_ : Aside0 (((((((w106.setCell ⟨gbAc, 0, none⟩ (.int .i64 tAs)).setCell ⟨gbAc, 1, none⟩ (.int .i64 tAz)).setCell ⟨gbAc, 2, none⟩ (.int .i64 tBb)).setCell ⟨gbAc, 3, none⟩ (.int .i64 tBe)).setCell ⟨gbAc, 4, none⟩ (.int .i64 tBg)).setCell ⟨gbAc, 5, none⟩ (.slice Ao112 tAx.length co112)).heap[gbAc]? = some (.cells #[.int .i64 tAs, .int .i64 tAz, .int .i64 tBb, .int .i64 tBe, .int .i64 tBg, .slice Ao112 tAx.length co112] 29 (0, 0))) := ⟨by (with_reducible repeat (first | refine blk_drewN ?_ _ | refine blk_drew ?_ | refine blk_alloc ?_ _)); refine blk_put (cs := #[.int .i64 tAs, .int .i64 tAz, .int .i64 tBb, .int .i64 tBe, .int .i64 tBg, .slice none 0 0]) ?_ 5 _ rfl; refine blk_put (cs := #[.int .i64 tAs, .int .i64 tAz, .int .i64 tBb, .int .i64 tBe, .int .i64 0, .slice none 0 0]) ?_ 4 _ rfl; refine blk_put (cs := #[.int .i64 tAs, .int .i64 tAz, .int .i64 tBb, .int .i64 0, .int .i64 0, .slice none 0 0]) ?_ 3 _ rfl; refine blk_put (cs := #[.int .i64 tAs, .int .i64 tAz, .int .i64 0, .int .i64 0, .int .i64 0, .slice none 0 0]) ?_ 2 _ rfl; refine blk_put (cs := #[.int .i64 tAs, .int .i64 0, .int .i64 0, .int .i64 0, .int .i64 0, .slice none 0 0]) ?_ 1 _ rfl; refine blk_put (cs := #[.int .i64 0, .int .i64 0, .int .i64 0, .int .i64 0, .int .i64 0, .slice none 0 0]) ?_ 0 _ rfl; (with_reducible repeat (first | refine blk_drewN ?_ _ | refine blk_drew ?_ | refine blk_alloc ?_ _)); exact BKAc.out⟩
 have n9_ : Aside0 (Below w.heap.size w ((((((w106.setCell ⟨gbAc, 0, none⟩ (.int .i64 tAs)).setCell ⟨gbAc, 1, none⟩ (.int .i64 tAz)).setCell ⟨gbAc, 2, none⟩ (.int .i64 tBb)).setCell ⟨gbAc, 3, none⟩ (.int .i64 tBe)).setCell ⟨gbAc, 4, none⟩ (.int .i64 tBg)).setCell ⟨gbAc, 5, none⟩ (.slice Ao112 tAx.length co112))) := ⟨by repeat (first | (with_reducible first | exact HB.out | apply below_alloc | apply pw_below_drewN | apply below_drew1 | refine below_set ?_ GEAe.out | refine below_set ?_ GEAd.out | refine below_set ?_ GEAa.out | refine below_set ?_ GEAb.out | refine below_set ?_ GEAc.out) | exact HB.out)⟩
 (try clear HOAh)
 (try clear HOAi)
 (try clear HOAk)
 (try clear HOAu)
 (try clear BKAe)
 (try clear BKAd)
 (try clear BKAa)
 (try clear BKAb)
 (try clear BKAc)
 (try clear HB)
 generalize ((((((w106.setCell ⟨gbAc, 0, none⟩ (.int .i64 tAs)).setCell ⟨gbAc, 1, none⟩ (.int .i64 tAz)).setCell ⟨gbAc, 2, none⟩ (.int .i64 tBb)).setCell ⟨gbAc, 3, none⟩ (.int .i64 tBe)).setCell ⟨gbAc, 4, none⟩ (.int .i64 tBg)).setCell ⟨gbAc, 5, none⟩ (.slice Ao112 tAx.length co112)) = w114 at n0_ n1_ n2_ n3_ n4_ n5_ n6_ n7_ n8_ n9_ ⊢
 have HOAh := n0_
 have HOAi := n1_
 have HOAk := n2_
 have HOAu := n3_
 have BKAe := n4_
 have BKAd := n5_
 have BKAa := n6_
 have BKAb := n7_
 have BKAc := n8_
 have HB := n9_
 clear n0_ n1_ n2_ n3_ n4_ n5_ n6_ n7_ n8_ n9_
 replace HOAh := Aside0.mk (Kd.R_drew HOAh.out)
 replace HOAi := Aside0.mk (Kd.R_drew HOAi.out)
 replace HOAk := Aside0.mk (Kd.R_drew HOAk.out)
 replace HOAu := Aside0.mk (Kd.R_drew HOAu.out)
 replace BKAe := Aside0.mk (blk_drew BKAe.out)
 replace BKAd := Aside0.mk (blk_drew BKAd.out)
 replace BKAa := Aside0.mk (blk_drew BKAa.out)
 replace BKAb := Aside0.mk (blk_drew BKAb.out)
 replace BKAc := Aside0.mk (blk_drew BKAc.out)
 replace HB := Aside0.mk (below_drew1 HB.out)
 refine start_ (n := 13) (S := fun w' => w'.cell? ⟨gbAa, 0, none⟩ = some (.int .i64 tAg) ∧ w'.cell? ⟨gbAa, 1, none⟩ = some (.int .i64 tAm) ∧ w'.cell? ⟨gbAa, 2, none⟩ = some (.int .i64 tAn) ∧ w'.cell? ⟨gbAa, 3, none⟩ = some (.int .i64 tAp) ∧ w'.cell? ⟨gbAa, 4, none⟩ = some (.int .i64 tAq) ∧ w'.cell? ⟨gbAa, 5, none⟩ = some (.slice Ao85 tAj.length co85)) (ds := []) #[false, false, false, false, false, false, false, false, false, false, false, false, false] (by kernel_rfl) rfl rfl ⟨(blk_cell BKAa.out 0).trans rfl, (blk_cell BKAa.out 1).trans rfl, (blk_cell BKAa.out 2).trans rfl, (blk_cell BKAa.out 3).trans rfl, (blk_cell BKAa.out 4).trans rfl, (blk_cell BKAa.out 5).trans rfl⟩ (fun hHeld => ?_); refine with_tabW plaitinglaw5_FrameTurn.tab8 plaitinglaw5_FrameTurn.bits8 (fun HT_ HW_ => ?_)
 generalize w114.drew = w115 at HOAh HOAi HOAk HOAu BKAe BKAd BKAa BKAb BKAc HB hHeld ⊢
 refine pq_ 1 61 HT_ ?_
 refine pq_ 2 62 HT_ ?_
 refine pq_ 3 63 HT_ ?_
 refine pq_ 4 64 HT_ ?_
 refine tq_ 0 60 HT_ HW_ hHeld ?_
 refine join_ (σ := Value × Nat) 2 #[true, true, true, true, true, true, true, true, true, true, true, false, false] (fun s_ => [(65, .string tBj), (66, .tuple #[.agg #[.int .i64 tBm, .int .i64 tBx, .int .i64 tBy, .int .i64 tBz, .int .i64 tCa, s_.1], .int .i64 tBv]), (19, .pointer (some ⟨s_.2, 0, none⟩)), (59, .tuple #[.agg #[.int .i64 tBm, .int .i64 tBx, .int .i64 tBy, .int .i64 tBz, .int .i64 tCa, s_.1], .int .i64 tBv]), (67, .agg #[.int .i64 tBm, .int .i64 tBx, .int .i64 tBy, .int .i64 tBz, .int .i64 tCa, s_.1]), (68, .int .i64 tBv)]) (fun s_ w' => (w'.cell? ⟨gbAa, 0, none⟩ = some (.int .i64 tAg) ∧ w'.cell? ⟨gbAa, 1, none⟩ = some (.int .i64 tAm) ∧ w'.cell? ⟨gbAa, 2, none⟩ = some (.int .i64 tAn) ∧ w'.cell? ⟨gbAa, 3, none⟩ = some (.int .i64 tAp) ∧ w'.cell? ⟨gbAa, 4, none⟩ = some (.int .i64 tAq) ∧ w'.cell? ⟨gbAa, 5, none⟩ = some (.slice Ao85 tAj.length co85)) ∧ (Kd.R (Kd.int .i64) 3 w' w.heap.size (fun _ => True) (.slice Ao85 tAj.length co85) tAj) ∧ (Kd.R k26 26 w' w.heap.size (fun k_ => some k_ ≠ (.slice Ao100 tAt.length co100 : Value).ownBlock ∧ some k_ ≠ (.slice Ao112 tAx.length co112 : Value).ownBlock ∧ some k_ ≠ (s_.1 : Value).ownBlock) (.slice Ao89 tAw.length co89) tAw) ∧ (Kd.R k26 26 w' w.heap.size (fun k_ => some k_ ≠ (.slice Ao89 tAw.length co89 : Value).ownBlock ∧ some k_ ≠ (.slice Ao112 tAx.length co112 : Value).ownBlock ∧ some k_ ≠ (s_.1 : Value).ownBlock) (.slice Ao100 tAt.length co100) tAt) ∧ (Kd.R k26 26 w' w.heap.size (fun k_ => some k_ ≠ (.slice Ao89 tAw.length co89 : Value).ownBlock ∧ some k_ ≠ (.slice Ao100 tAt.length co100 : Value).ownBlock ∧ some k_ ≠ (s_.1 : Value).ownBlock) (.slice Ao112 tAx.length co112) tAx) ∧ (Kd.R k26 26 w' w.heap.size (fun k_ => some k_ ≠ (.slice Ao89 tAw.length co89 : Value).ownBlock ∧ some k_ ≠ (.slice Ao100 tAt.length co100 : Value).ownBlock ∧ some k_ ≠ (.slice Ao112 tAx.length co112 : Value).ownBlock) s_.1 tCb) ∧ (w'.heap[gbAe]? = some (.cells #[.int .i64 a0_0, .int .i64 a0_1, .int .i64 a0_2, .int .i64 a0_3, .int .i64 a0_4, .slice A0_5 l0_5.length c0_5] 24 (0, 0))) ∧ (w'.heap[gbAd]? = some (.cells #[.int .i64 a1_0, .int .i64 a1_1, .int .i64 a1_2, .int .i64 a1_3, .int .i64 a1_4, .slice A1_5 l1_5.length c1_5] 29 (0, 0))) ∧ (w'.heap[gbAa]? = some (.cells #[.int .i64 tAg, .int .i64 tAm, .int .i64 tAn, .int .i64 tAp, .int .i64 tAq, .slice Ao85 tAj.length co85] 24 (0, 0))) ∧ (w'.heap[gbAb]? = some (.cells #[.int .i64 tAv, .int .i64 tBa, .int .i64 tBd, .int .i64 tBf, .int .i64 tBh, .slice Ao100 tAt.length co100] 29 (0, 0))) ∧ (w'.heap[gbAc]? = some (.cells #[.int .i64 tAs, .int .i64 tAz, .int .i64 tBb, .int .i64 tBe, .int .i64 tBg, .slice Ao112 tAx.length co112] 29 (0, 0))) ∧ (w'.heap[s_.2]? = some (.cells #[.int .i64 0, .int .i64 0, .int .i64 0, .int .i64 0, .int .i64 0, .slice none 0 0] 29 (0, 0))) ∧ (w.heap.size ≤ s_.2) ∧ (w.heap.size ≤ s_.2) ∧ (gbAe ≠ s_.2) ∧ (s_.2 ≠ gbAe) ∧ (gbAd ≠ s_.2) ∧ (s_.2 ≠ gbAd) ∧ (gbAa ≠ s_.2) ∧ (s_.2 ≠ gbAa) ∧ (gbAb ≠ s_.2) ∧ (s_.2 ≠ gbAb) ∧ (gbAc ≠ s_.2) ∧ (s_.2 ≠ gbAc) ∧ (Below w.heap.size w w')) ?_ ?_
 rotate_left
 ·
  intro hCont
  refine two_ (i := 5) (j := 10) (Ni := some 65) (Nj := some 19) #[true, true, true, true, true, true, false, false, false, false, false, false, false] #[true, true, true, true, true, false, false, false, false, false, true, false, false] rfl rfl rfl rfl (two_of HT_.out (by kernel_rfl)) (by decide) (by decide) (fun K hK => ?_) (fun K hK => ?_)
  ·
   skip
   refine gs_ Try.func32 #[.string tAr, .int .i64 (wrap64 ((tAr.size : Int) - 1))] ?_
   with_reducible refine (plaitingref1_Turn.calls k tAr (wrap64 ((tAr.size : Int) - 1)) tBj _ A18.out).mono ?_
   rintro e w' ⟨rfl, ⟨nd, rfl⟩⟩
   refine ⟨_, rfl, ?_⟩
   refine hK.out _ _ ⟨(blk_cell BKAa.out 0).trans rfl, (blk_cell BKAa.out 1).trans rfl, (blk_cell BKAa.out 2).trans rfl, (blk_cell BKAa.out 3).trans rfl, (blk_cell BKAa.out 4).trans rfl, (blk_cell BKAa.out 5).trans rfl⟩ (fun hHeld => ?_)
   clear hK K
   refine nq_ 65 ?_
   refine two_ (i := 6) (j := 10) (Ni := some 66) (Nj := some 19) #[true, true, true, true, true, true, true, false, false, false, false, false, false] #[true, true, true, true, true, true, false, false, false, false, true, false, false] rfl rfl rfl rfl (two_of HT_.out (by kernel_rfl)) (by decide) (by decide) (fun K hK => ?_) (fun K hK => ?_)
   ·
    skip
    refine gs_ Try.func35 #[.agg #[.int .i64 tAg, .int .i64 tAm, .int .i64 tAn, .int .i64 tAp, .int .i64 tAq, .slice Ao85 tAj.length co85], .string tBj] ?_
    with_reducible refine (frame_Read.calls tAg tAm tAn tAp tAq _ _ tAj tBj tBm tBx tBy tBz tCa tCb tBv _ ?side1 ?side2 A19.out).mono ?_
    (case side1 => exact cC_ (Kd.R_reads' HOAh.out).2.2)
    (case side2 => exact (Kd.R_reads' HOAh.out).2.1)
    rintro e w116 ⟨vBt, rfl, ho0, hb⟩
    refine ⟨_, rfl, ?_⟩
    have HOBu := Aside0.mk (Kd.R_lower (Kd.R_new' (Kd.R_new' (Kd.R_new' ho0 (Kd.R_lt (pR_ HOAi.out))) (Kd.R_lt (pR_ HOAk.out))) (Kd.R_lt (pR_ HOAu.out))) (below_size (pH_ HB.out)))
    replace HOAh := Aside0.mk (Kd.R_below (pR_ HOAh.out) hb)
    replace HOAi := Aside0.mk (Kd.R_elder' (pR_ HOAi.out) (Kd.R_base ho0) hb)
    replace HOAk := Aside0.mk (Kd.R_elder' (pR_ HOAk.out) (Kd.R_base ho0) hb)
    replace HOAu := Aside0.mk (Kd.R_elder' (pR_ HOAu.out) (Kd.R_base ho0) hb)
    replace BKAe := Aside0.mk (blk_below (pB_ BKAe.out) hb)
    replace BKAd := Aside0.mk (blk_below (pB_ BKAd.out) hb)
    replace BKAa := Aside0.mk (blk_below (pB_ BKAa.out) hb)
    replace BKAb := Aside0.mk (blk_below (pB_ BKAb.out) hb)
    replace BKAc := Aside0.mk (blk_below (pB_ BKAc.out) hb)
    replace HB := Aside0.mk (below_step (pH_ HB.out) hb)
    (try clear hb)
    (try clear hb2)
    (try clear hk)
    (try clear hi)
    (try clear ho0)
    refine hK.out _ _ ⟨(blk_cell BKAa.out 0).trans rfl, (blk_cell BKAa.out 1).trans rfl, (blk_cell BKAa.out 2).trans rfl, (blk_cell BKAa.out 3).trans rfl, (blk_cell BKAa.out 4).trans rfl, (blk_cell BKAa.out 5).trans rfl⟩ (fun hHeld => ?_)
    clear hK K
    refine nq_ 66 ?_
    refine pq_ 7 59 HT_ ?_
    refine pq_ 8 67 HT_ ?_
    refine pq_ 9 68 HT_ ?_
    refine oq_ 10 19 HT_ (fun K hK => ?_)
    refine box_step ?hg (N := 19) ?hd (cs := #[.int .i64 0, .int .i64 0, .int .i64 0, .int .i64 0, .int .i64 0, .slice none 0 0]) (t := 29) ?hr ?_; (case hd => rfl); (case hg => rfl); (case hr => first | (go_simp; done) | (go_simp; rfl))
    intro gbAf hg w117 hbox hb
    have BKAf := Aside0.mk (hbox)
    have GWAf := Aside0.mk ((by rw [hg]; exact (below_size (pH_ HB.out)) : w.heap.size ≤ gbAf))
    have GEAf := Aside0.mk ((by rw [hg]; exact (below_size (pH_ HB.out)) : w.heap.size ≤ gbAf))
    have NBAe_Af := Aside0.mk (ltB_ hg BKAe.out)
    have NBAf_Ae := Aside0.mk (ltB_ hg BKAe.out).symm
    have NBAd_Af := Aside0.mk (ltB_ hg BKAd.out)
    have NBAf_Ad := Aside0.mk (ltB_ hg BKAd.out).symm
    have NBAa_Af := Aside0.mk (ltB_ hg BKAa.out)
    have NBAf_Aa := Aside0.mk (ltB_ hg BKAa.out).symm
    have NBAb_Af := Aside0.mk (ltB_ hg BKAb.out)
    have NBAf_Ab := Aside0.mk (ltB_ hg BKAb.out).symm
    have NBAc_Af := Aside0.mk (ltB_ hg BKAc.out)
    have NBAf_Ac := Aside0.mk (ltB_ hg BKAc.out).symm
    replace HOAh := Aside0.mk (Kd.R_below (pR_ HOAh.out) hb)
    replace HOAi := Aside0.mk (Kd.R_below (pR_ HOAi.out) hb)
    replace HOAk := Aside0.mk (Kd.R_below (pR_ HOAk.out) hb)
    replace HOAu := Aside0.mk (Kd.R_below (pR_ HOAu.out) hb)
    replace HOBu := Aside0.mk (Kd.R_below (pR_ HOBu.out) hb)
    replace BKAe := Aside0.mk (blk_below (pB_ BKAe.out) hb)
    replace BKAd := Aside0.mk (blk_below (pB_ BKAd.out) hb)
    replace BKAa := Aside0.mk (blk_below (pB_ BKAa.out) hb)
    replace BKAb := Aside0.mk (blk_below (pB_ BKAb.out) hb)
    replace BKAc := Aside0.mk (blk_below (pB_ BKAc.out) hb)
    replace HB := Aside0.mk (below_step (pH_ HB.out) hb)
    clear hb hbox hg
    refine hK.out _ _ ⟨(blk_cell BKAa.out 0).trans rfl, (blk_cell BKAa.out 1).trans rfl, (blk_cell BKAa.out 2).trans rfl, (blk_cell BKAa.out 3).trans rfl, (blk_cell BKAa.out 4).trans rfl, (blk_cell BKAa.out 5).trans rfl⟩ (fun hHeld => ?_)
    clear hK K
    refine nq_ 19 ?_
    exact norm_ (by simp only [putAll, Act.put, List.setIfInBounds_toArray, List.set_cons_zero, List.set_cons_succ]) (hCont (vBt, gbAf) _ ⟨hHeld, (pR_ HOAh.out), (by (with_reducible repeat (first | apply Kd.R_alloc | apply Kd.R_drewN | apply Kd.R_drew)); exact Kd.R_mono HOAi.out (fun _ hk => ⟨hk.1.1, ⟨hk.1.2, hk.2⟩⟩)), (by (with_reducible repeat (first | apply Kd.R_alloc | apply Kd.R_drewN | apply Kd.R_drew)); exact Kd.R_mono HOAk.out (fun _ hk => ⟨hk.1.1, ⟨hk.1.2, hk.2⟩⟩)), (by (with_reducible repeat (first | apply Kd.R_alloc | apply Kd.R_drewN | apply Kd.R_drew)); exact Kd.R_mono HOAu.out (fun _ hk => ⟨hk.1.1, ⟨hk.1.2, hk.2⟩⟩)), (by (with_reducible repeat (first | apply Kd.R_alloc | apply Kd.R_drewN | apply Kd.R_drew)); exact Kd.R_mono HOBu.out (fun _ hk => ⟨hk.1.1.2, ⟨hk.1.2, hk.2⟩⟩)), (pB_ BKAe.out), (pB_ BKAd.out), (pB_ BKAa.out), (pB_ BKAb.out), (pB_ BKAc.out), (pB_ BKAf.out), GWAf.out, GEAf.out, NBAe_Af.out, NBAf_Ae.out, NBAd_Af.out, NBAf_Ad.out, NBAa_Af.out, NBAf_Aa.out, NBAb_Af.out, NBAf_Ab.out, NBAc_Af.out, NBAf_Ac.out, (pH_ HB.out)⟩)
   skip
   refine box_step ?hg (N := 19) ?hd (cs := #[.int .i64 0, .int .i64 0, .int .i64 0, .int .i64 0, .int .i64 0, .slice none 0 0]) (t := 29) ?hr ?_; (case hd => rfl); (case hg => rfl); (case hr => first | (go_simp; done) | (go_simp; rfl))
   intro gbAf hg w116 hbox hb
   have BKAf := Aside0.mk (hbox)
   have GWAf := Aside0.mk ((by rw [hg]; exact (below_size (pH_ HB.out)) : w.heap.size ≤ gbAf))
   have GEAf := Aside0.mk ((by rw [hg]; exact (below_size (pH_ HB.out)) : w.heap.size ≤ gbAf))
   have NBAe_Af := Aside0.mk (ltB_ hg BKAe.out)
   have NBAf_Ae := Aside0.mk (ltB_ hg BKAe.out).symm
   have NBAd_Af := Aside0.mk (ltB_ hg BKAd.out)
   have NBAf_Ad := Aside0.mk (ltB_ hg BKAd.out).symm
   have NBAa_Af := Aside0.mk (ltB_ hg BKAa.out)
   have NBAf_Aa := Aside0.mk (ltB_ hg BKAa.out).symm
   have NBAb_Af := Aside0.mk (ltB_ hg BKAb.out)
   have NBAf_Ab := Aside0.mk (ltB_ hg BKAb.out).symm
   have NBAc_Af := Aside0.mk (ltB_ hg BKAc.out)
   have NBAf_Ac := Aside0.mk (ltB_ hg BKAc.out).symm
   replace HOAh := Aside0.mk (Kd.R_below (pR_ HOAh.out) hb)
   replace HOAi := Aside0.mk (Kd.R_below (pR_ HOAi.out) hb)
   replace HOAk := Aside0.mk (Kd.R_below (pR_ HOAk.out) hb)
   replace HOAu := Aside0.mk (Kd.R_below (pR_ HOAu.out) hb)
   replace BKAe := Aside0.mk (blk_below (pB_ BKAe.out) hb)
   replace BKAd := Aside0.mk (blk_below (pB_ BKAd.out) hb)
   replace BKAa := Aside0.mk (blk_below (pB_ BKAa.out) hb)
   replace BKAb := Aside0.mk (blk_below (pB_ BKAb.out) hb)
   replace BKAc := Aside0.mk (blk_below (pB_ BKAc.out) hb)
   replace HB := Aside0.mk (below_step (pH_ HB.out) hb)
   clear hb hbox hg
   refine hK.out _ _ ⟨(blk_cell BKAa.out 0).trans rfl, (blk_cell BKAa.out 1).trans rfl, (blk_cell BKAa.out 2).trans rfl, (blk_cell BKAa.out 3).trans rfl, (blk_cell BKAa.out 4).trans rfl, (blk_cell BKAa.out 5).trans rfl⟩ (fun hHeld => ?_)
   clear hK K
   refine nq_ 19 ?_
   refine oq_ 6 66 HT_ (fun K hK => ?_)
   refine gs_ Try.func35 #[.agg #[.int .i64 tAg, .int .i64 tAm, .int .i64 tAn, .int .i64 tAp, .int .i64 tAq, .slice Ao85 tAj.length co85], .string tBj] ?_
   with_reducible refine (frame_Read.calls tAg tAm tAn tAp tAq _ _ tAj tBj tBm tBx tBy tBz tCa tCb tBv _ ?side1 ?side2 A19.out).mono ?_
   (case side1 => exact cC_ (Kd.R_reads' HOAh.out).2.2)
   (case side2 => exact (Kd.R_reads' HOAh.out).2.1)
   rintro e w117 ⟨vBt, rfl, ho0, hb⟩
   refine ⟨_, rfl, ?_⟩
   have HOBu := Aside0.mk (Kd.R_lower (Kd.R_new' (Kd.R_new' (Kd.R_new' ho0 (Kd.R_lt (pR_ HOAi.out))) (Kd.R_lt (pR_ HOAk.out))) (Kd.R_lt (pR_ HOAu.out))) (below_size (pH_ HB.out)))
   replace HOAh := Aside0.mk (Kd.R_below (pR_ HOAh.out) hb)
   replace HOAi := Aside0.mk (Kd.R_elder' (pR_ HOAi.out) (Kd.R_base ho0) hb)
   replace HOAk := Aside0.mk (Kd.R_elder' (pR_ HOAk.out) (Kd.R_base ho0) hb)
   replace HOAu := Aside0.mk (Kd.R_elder' (pR_ HOAu.out) (Kd.R_base ho0) hb)
   replace BKAe := Aside0.mk (blk_below (pB_ BKAe.out) hb)
   replace BKAd := Aside0.mk (blk_below (pB_ BKAd.out) hb)
   replace BKAa := Aside0.mk (blk_below (pB_ BKAa.out) hb)
   replace BKAb := Aside0.mk (blk_below (pB_ BKAb.out) hb)
   replace BKAc := Aside0.mk (blk_below (pB_ BKAc.out) hb)
   replace BKAf := Aside0.mk (blk_below (pB_ BKAf.out) hb)
   replace HB := Aside0.mk (below_step (pH_ HB.out) hb)
   (try clear hb)
   (try clear hb2)
   (try clear hk)
   (try clear hi)
   (try clear ho0)
   refine hK.out _ _ ⟨(blk_cell BKAa.out 0).trans rfl, (blk_cell BKAa.out 1).trans rfl, (blk_cell BKAa.out 2).trans rfl, (blk_cell BKAa.out 3).trans rfl, (blk_cell BKAa.out 4).trans rfl, (blk_cell BKAa.out 5).trans rfl⟩ (fun hHeld => ?_)
   clear hK K
   refine nq_ 66 ?_
   refine pq_ 7 59 HT_ ?_
   refine pq_ 8 67 HT_ ?_
   refine pq_ 9 68 HT_ ?_
   exact norm_ (by simp only [putAll, Act.put, List.setIfInBounds_toArray, List.set_cons_zero, List.set_cons_succ]) (hCont (vBt, gbAf) _ ⟨hHeld, (pR_ HOAh.out), (by (with_reducible repeat (first | apply Kd.R_alloc | apply Kd.R_drewN | apply Kd.R_drew)); exact Kd.R_mono HOAi.out (fun _ hk => ⟨hk.1.1, ⟨hk.1.2, hk.2⟩⟩)), (by (with_reducible repeat (first | apply Kd.R_alloc | apply Kd.R_drewN | apply Kd.R_drew)); exact Kd.R_mono HOAk.out (fun _ hk => ⟨hk.1.1, ⟨hk.1.2, hk.2⟩⟩)), (by (with_reducible repeat (first | apply Kd.R_alloc | apply Kd.R_drewN | apply Kd.R_drew)); exact Kd.R_mono HOAu.out (fun _ hk => ⟨hk.1.1, ⟨hk.1.2, hk.2⟩⟩)), (by (with_reducible repeat (first | apply Kd.R_alloc | apply Kd.R_drewN | apply Kd.R_drew)); exact Kd.R_mono HOBu.out (fun _ hk => ⟨hk.1.1.2, ⟨hk.1.2, hk.2⟩⟩)), (pB_ BKAe.out), (pB_ BKAd.out), (pB_ BKAa.out), (pB_ BKAb.out), (pB_ BKAc.out), (pB_ BKAf.out), GWAf.out, GEAf.out, NBAe_Af.out, NBAf_Ae.out, NBAd_Af.out, NBAf_Ad.out, NBAa_Af.out, NBAf_Aa.out, NBAb_Af.out, NBAf_Ab.out, NBAc_Af.out, NBAf_Ac.out, (pH_ HB.out)⟩)
  skip
  refine box_step ?hg (N := 19) ?hd (cs := #[.int .i64 0, .int .i64 0, .int .i64 0, .int .i64 0, .int .i64 0, .slice none 0 0]) (t := 29) ?hr ?_; (case hd => rfl); (case hg => rfl); (case hr => first | (go_simp; done) | (go_simp; rfl))
  intro gbAf hg w116 hbox hb
  have BKAf := Aside0.mk (hbox)
  have GWAf := Aside0.mk ((by rw [hg]; exact (below_size (pH_ HB.out)) : w.heap.size ≤ gbAf))
  have GEAf := Aside0.mk ((by rw [hg]; exact (below_size (pH_ HB.out)) : w.heap.size ≤ gbAf))
  have NBAe_Af := Aside0.mk (ltB_ hg BKAe.out)
  have NBAf_Ae := Aside0.mk (ltB_ hg BKAe.out).symm
  have NBAd_Af := Aside0.mk (ltB_ hg BKAd.out)
  have NBAf_Ad := Aside0.mk (ltB_ hg BKAd.out).symm
  have NBAa_Af := Aside0.mk (ltB_ hg BKAa.out)
  have NBAf_Aa := Aside0.mk (ltB_ hg BKAa.out).symm
  have NBAb_Af := Aside0.mk (ltB_ hg BKAb.out)
  have NBAf_Ab := Aside0.mk (ltB_ hg BKAb.out).symm
  have NBAc_Af := Aside0.mk (ltB_ hg BKAc.out)
  have NBAf_Ac := Aside0.mk (ltB_ hg BKAc.out).symm
  replace HOAh := Aside0.mk (Kd.R_below (pR_ HOAh.out) hb)
  replace HOAi := Aside0.mk (Kd.R_below (pR_ HOAi.out) hb)
  replace HOAk := Aside0.mk (Kd.R_below (pR_ HOAk.out) hb)
  replace HOAu := Aside0.mk (Kd.R_below (pR_ HOAu.out) hb)
  replace BKAe := Aside0.mk (blk_below (pB_ BKAe.out) hb)
  replace BKAd := Aside0.mk (blk_below (pB_ BKAd.out) hb)
  replace BKAa := Aside0.mk (blk_below (pB_ BKAa.out) hb)
  replace BKAb := Aside0.mk (blk_below (pB_ BKAb.out) hb)
  replace BKAc := Aside0.mk (blk_below (pB_ BKAc.out) hb)
  replace HB := Aside0.mk (below_step (pH_ HB.out) hb)
  clear hb hbox hg
  refine hK.out _ _ ⟨(blk_cell BKAa.out 0).trans rfl, (blk_cell BKAa.out 1).trans rfl, (blk_cell BKAa.out 2).trans rfl, (blk_cell BKAa.out 3).trans rfl, (blk_cell BKAa.out 4).trans rfl, (blk_cell BKAa.out 5).trans rfl⟩ (fun hHeld => ?_)
  clear hK K
  refine nq_ 19 ?_
  refine oq_ 5 65 HT_ (fun K hK => ?_)
  refine gs_ Try.func32 #[.string tAr, .int .i64 (wrap64 ((tAr.size : Int) - 1))] ?_
  with_reducible refine (plaitingref1_Turn.calls k tAr (wrap64 ((tAr.size : Int) - 1)) tBj _ A18.out).mono ?_
  rintro e w' ⟨rfl, ⟨nd, rfl⟩⟩
  refine ⟨_, rfl, ?_⟩
  refine hK.out _ _ ⟨(blk_cell BKAa.out 0).trans rfl, (blk_cell BKAa.out 1).trans rfl, (blk_cell BKAa.out 2).trans rfl, (blk_cell BKAa.out 3).trans rfl, (blk_cell BKAa.out 4).trans rfl, (blk_cell BKAa.out 5).trans rfl⟩ (fun hHeld => ?_)
  clear hK K
  refine nq_ 65 ?_
  refine oq_ 6 66 HT_ (fun K hK => ?_)
  refine gs_ Try.func35 #[.agg #[.int .i64 tAg, .int .i64 tAm, .int .i64 tAn, .int .i64 tAp, .int .i64 tAq, .slice Ao85 tAj.length co85], .string tBj] ?_
  with_reducible refine (frame_Read.calls tAg tAm tAn tAp tAq _ _ tAj tBj tBm tBx tBy tBz tCa tCb tBv _ ?side1 ?side2 A19.out).mono ?_
  (case side1 => exact cC_ (Kd.R_reads' HOAh.out).2.2)
  (case side2 => exact (Kd.R_reads' HOAh.out).2.1)
  rintro e w117 ⟨vBt, rfl, ho0, hb⟩
  refine ⟨_, rfl, ?_⟩
  have HOBu := Aside0.mk (Kd.R_lower (Kd.R_new' (Kd.R_new' (Kd.R_new' ho0 (Kd.R_lt (pR_ HOAi.out))) (Kd.R_lt (pR_ HOAk.out))) (Kd.R_lt (pR_ HOAu.out))) (below_size (pH_ HB.out)))
  replace HOAh := Aside0.mk (Kd.R_below (pR_ HOAh.out) hb)
  replace HOAi := Aside0.mk (Kd.R_elder' (pR_ HOAi.out) (Kd.R_base ho0) hb)
  replace HOAk := Aside0.mk (Kd.R_elder' (pR_ HOAk.out) (Kd.R_base ho0) hb)
  replace HOAu := Aside0.mk (Kd.R_elder' (pR_ HOAu.out) (Kd.R_base ho0) hb)
  replace BKAe := Aside0.mk (blk_below (pB_ BKAe.out) hb)
  replace BKAd := Aside0.mk (blk_below (pB_ BKAd.out) hb)
  replace BKAa := Aside0.mk (blk_below (pB_ BKAa.out) hb)
  replace BKAb := Aside0.mk (blk_below (pB_ BKAb.out) hb)
  replace BKAc := Aside0.mk (blk_below (pB_ BKAc.out) hb)
  replace BKAf := Aside0.mk (blk_below (pB_ BKAf.out) hb)
  replace HB := Aside0.mk (below_step (pH_ HB.out) hb)
  (try clear hb)
  (try clear hb2)
  (try clear hk)
  (try clear hi)
  (try clear ho0)
  refine hK.out _ _ ⟨(blk_cell BKAa.out 0).trans rfl, (blk_cell BKAa.out 1).trans rfl, (blk_cell BKAa.out 2).trans rfl, (blk_cell BKAa.out 3).trans rfl, (blk_cell BKAa.out 4).trans rfl, (blk_cell BKAa.out 5).trans rfl⟩ (fun hHeld => ?_)
  clear hK K
  refine nq_ 66 ?_
  refine pq_ 7 59 HT_ ?_
  refine pq_ 8 67 HT_ ?_
  refine pq_ 9 68 HT_ ?_
  exact norm_ (by simp only [putAll, Act.put, List.setIfInBounds_toArray, List.set_cons_zero, List.set_cons_succ]) (hCont (vBt, gbAf) _ ⟨hHeld, (pR_ HOAh.out), (by (with_reducible repeat (first | apply Kd.R_alloc | apply Kd.R_drewN | apply Kd.R_drew)); exact Kd.R_mono HOAi.out (fun _ hk => ⟨hk.1.1, ⟨hk.1.2, hk.2⟩⟩)), (by (with_reducible repeat (first | apply Kd.R_alloc | apply Kd.R_drewN | apply Kd.R_drew)); exact Kd.R_mono HOAk.out (fun _ hk => ⟨hk.1.1, ⟨hk.1.2, hk.2⟩⟩)), (by (with_reducible repeat (first | apply Kd.R_alloc | apply Kd.R_drewN | apply Kd.R_drew)); exact Kd.R_mono HOAu.out (fun _ hk => ⟨hk.1.1, ⟨hk.1.2, hk.2⟩⟩)), (by (with_reducible repeat (first | apply Kd.R_alloc | apply Kd.R_drewN | apply Kd.R_drew)); exact Kd.R_mono HOBu.out (fun _ hk => ⟨hk.1.1.2, ⟨hk.1.2, hk.2⟩⟩)), (pB_ BKAe.out), (pB_ BKAd.out), (pB_ BKAa.out), (pB_ BKAb.out), (pB_ BKAc.out), (pB_ BKAf.out), GWAf.out, GEAf.out, NBAe_Af.out, NBAf_Ae.out, NBAd_Af.out, NBAf_Ad.out, NBAa_Af.out, NBAf_Aa.out, NBAb_Af.out, NBAf_Ab.out, NBAc_Af.out, NBAf_Ac.out, (pH_ HB.out)⟩)
 rintro ⟨vBt, gbAf⟩ w118 ⟨hS_, h0_, h1_, h2_, h3_, h4_, h5_, h6_, h7_, h8_, h9_, h10_, h11_, h12_, h13_, h14_, h15_, h16_, h17_, h18_, h19_, h20_, h21_, h22_, h23_⟩
 have n0_ : Aside0 (Kd.R (Kd.int .i64) 3 w118 w.heap.size (fun _ => True) (.slice Ao85 tAj.length co85) tAj) := ⟨h0_⟩
 have n1_ : Aside0 (Kd.R k26 26 w118 w.heap.size (fun k_ => some k_ ≠ (.slice Ao100 tAt.length co100 : Value).ownBlock ∧ some k_ ≠ (.slice Ao112 tAx.length co112 : Value).ownBlock ∧ some k_ ≠ (vBt : Value).ownBlock) (.slice Ao89 tAw.length co89) tAw) := ⟨h1_⟩
 have n2_ : Aside0 (Kd.R k26 26 w118 w.heap.size (fun k_ => some k_ ≠ (.slice Ao89 tAw.length co89 : Value).ownBlock ∧ some k_ ≠ (.slice Ao112 tAx.length co112 : Value).ownBlock ∧ some k_ ≠ (vBt : Value).ownBlock) (.slice Ao100 tAt.length co100) tAt) := ⟨h2_⟩
 have n3_ : Aside0 (Kd.R k26 26 w118 w.heap.size (fun k_ => some k_ ≠ (.slice Ao89 tAw.length co89 : Value).ownBlock ∧ some k_ ≠ (.slice Ao100 tAt.length co100 : Value).ownBlock ∧ some k_ ≠ (vBt : Value).ownBlock) (.slice Ao112 tAx.length co112) tAx) := ⟨h3_⟩
 have n4_ : Aside0 (Kd.R k26 26 w118 w.heap.size (fun k_ => some k_ ≠ (.slice Ao89 tAw.length co89 : Value).ownBlock ∧ some k_ ≠ (.slice Ao100 tAt.length co100 : Value).ownBlock ∧ some k_ ≠ (.slice Ao112 tAx.length co112 : Value).ownBlock) vBt tCb) := ⟨h4_⟩
 have n5_ : Aside0 (w118.heap[gbAe]? = some (.cells #[.int .i64 a0_0, .int .i64 a0_1, .int .i64 a0_2, .int .i64 a0_3, .int .i64 a0_4, .slice A0_5 l0_5.length c0_5] 24 (0, 0))) := ⟨h5_⟩
 have n6_ : Aside0 (w118.heap[gbAd]? = some (.cells #[.int .i64 a1_0, .int .i64 a1_1, .int .i64 a1_2, .int .i64 a1_3, .int .i64 a1_4, .slice A1_5 l1_5.length c1_5] 29 (0, 0))) := ⟨h6_⟩
 have n7_ : Aside0 (w118.heap[gbAa]? = some (.cells #[.int .i64 tAg, .int .i64 tAm, .int .i64 tAn, .int .i64 tAp, .int .i64 tAq, .slice Ao85 tAj.length co85] 24 (0, 0))) := ⟨h7_⟩
 have n8_ : Aside0 (w118.heap[gbAb]? = some (.cells #[.int .i64 tAv, .int .i64 tBa, .int .i64 tBd, .int .i64 tBf, .int .i64 tBh, .slice Ao100 tAt.length co100] 29 (0, 0))) := ⟨h8_⟩
 have n9_ : Aside0 (w118.heap[gbAc]? = some (.cells #[.int .i64 tAs, .int .i64 tAz, .int .i64 tBb, .int .i64 tBe, .int .i64 tBg, .slice Ao112 tAx.length co112] 29 (0, 0))) := ⟨h9_⟩
 have n10_ : Aside0 (w118.heap[gbAf]? = some (.cells #[.int .i64 0, .int .i64 0, .int .i64 0, .int .i64 0, .int .i64 0, .slice none 0 0] 29 (0, 0))) := ⟨h10_⟩
 have n11_ : Aside0 (w.heap.size ≤ gbAf) := ⟨h11_⟩
 have n12_ : Aside0 (w.heap.size ≤ gbAf) := ⟨h12_⟩
 have n13_ : Aside0 (gbAe ≠ gbAf) := ⟨h13_⟩
 have n14_ : Aside0 (gbAf ≠ gbAe) := ⟨h14_⟩
 have n15_ : Aside0 (gbAd ≠ gbAf) := ⟨h15_⟩
 have n16_ : Aside0 (gbAf ≠ gbAd) := ⟨h16_⟩
 have n17_ : Aside0 (gbAa ≠ gbAf) := ⟨h17_⟩
 have n18_ : Aside0 (gbAf ≠ gbAa) := ⟨h18_⟩
 have n19_ : Aside0 (gbAb ≠ gbAf) := ⟨h19_⟩
 have n20_ : Aside0 (gbAf ≠ gbAb) := ⟨h20_⟩
 have n21_ : Aside0 (gbAc ≠ gbAf) := ⟨h21_⟩
 have n22_ : Aside0 (gbAf ≠ gbAc) := ⟨h22_⟩
 have n23_ : Aside0 (Below w.heap.size w w118) := ⟨h23_⟩
 clear HOAh
 clear HOAi
 clear HOAk
 clear HOAu
 clear BKAe
 clear BKAd
 clear BKAa
 clear BKAb
 clear BKAc
 clear HB
 clear h0_ h1_ h2_ h3_ h4_ h5_ h6_ h7_ h8_ h9_ h10_ h11_ h12_ h13_ h14_ h15_ h16_ h17_ h18_ h19_ h20_ h21_ h22_ h23_
 have HOAh := n0_
 have HOAi := n1_
 have HOAk := n2_
 have HOAu := n3_
 have HOBu := n4_
 have BKAe := n5_
 have BKAd := n6_
 have BKAa := n7_
 have BKAb := n8_
 have BKAc := n9_
 have BKAf := n10_
 have GWAf := n11_
 have GEAf := n12_
 have NBAe_Af := n13_
 have NBAf_Ae := n14_
 have NBAd_Af := n15_
 have NBAf_Ad := n16_
 have NBAa_Af := n17_
 have NBAf_Aa := n18_
 have NBAb_Af := n19_
 have NBAf_Ab := n20_
 have NBAc_Af := n21_
 have NBAf_Ac := n22_
 have HB := n23_
 clear n0_ n1_ n2_ n3_ n4_ n5_ n6_ n7_ n8_ n9_ n10_ n11_ n12_ n13_ n14_ n15_ n16_ n17_ n18_ n19_ n20_ n21_ n22_ n23_
 have hHeld : w118.cell? ⟨gbAa, 0, none⟩ = some (.int .i64 tAg) ∧ w118.cell? ⟨gbAa, 1, none⟩ = some (.int .i64 tAm) ∧ w118.cell? ⟨gbAa, 2, none⟩ = some (.int .i64 tAn) ∧ w118.cell? ⟨gbAa, 3, none⟩ = some (.int .i64 tAp) ∧ w118.cell? ⟨gbAa, 4, none⟩ = some (.int .i64 tAq) ∧ w118.cell? ⟨gbAa, 5, none⟩ = some (.slice Ao85 tAj.length co85) := hS_
 obtain ⟨Ao124, co124, eo124⟩ := Kd.R_slice HOBu.out
 (first | subst eo124 | (injection eo124 with f1_ f2_ f3_; have f4_ := f1_.symm; have f5_ := f3_.symm; clear f1_ f2_ f3_; subst f4_; subst f5_))
 refine norm_ (a' := ?_) ?_ ?_
 rotate_left
 ·
  simp only [putAll, Act.put, List.setIfInBounds_toArray, List.set_cons_zero, List.set_cons_succ]
  rfl
 refine one_ (i := 11) (N := none) #[true, true, true, true, true, true, true, true, true, true, true, true, false] rfl rfl (one_of HT_.out (by kernel_rfl)) (by decide) (fun K hK => ?_)
 have hs119 : w118.cell? ⟨gbAf, 0, none⟩ = some (.int .i64 0) := (blk_cell BKAf.out 0).trans rfl
 have hfs119 := blk_frozen BKAf.out 0
 have hns119_0 := NBAe_Af.out
 have hns119_1 := NBAd_Af.out
 have hns119_2 := NBAa_Af.out
 have hns119_3 := NBAb_Af.out
 have hns119_4 := NBAc_Af.out
 have hms119_0 := NBAf_Ae.out
 have hms119_1 := NBAf_Ad.out
 have hms119_2 := NBAf_Aa.out
 have hms119_3 := NBAf_Ab.out
 have hms119_4 := NBAf_Ac.out
 have hs120 : w118.cell? ⟨gbAf, 1, none⟩ = some (.int .i64 0) := (blk_cell BKAf.out 1).trans rfl
 have hfs120 := blk_frozen BKAf.out 1
 have hns120_0 := NBAe_Af.out
 have hns120_1 := NBAd_Af.out
 have hns120_2 := NBAa_Af.out
 have hns120_3 := NBAb_Af.out
 have hns120_4 := NBAc_Af.out
 have hms120_0 := NBAf_Ae.out
 have hms120_1 := NBAf_Ad.out
 have hms120_2 := NBAf_Aa.out
 have hms120_3 := NBAf_Ab.out
 have hms120_4 := NBAf_Ac.out
 have hs121 : w118.cell? ⟨gbAf, 2, none⟩ = some (.int .i64 0) := (blk_cell BKAf.out 2).trans rfl
 have hfs121 := blk_frozen BKAf.out 2
 have hns121_0 := NBAe_Af.out
 have hns121_1 := NBAd_Af.out
 have hns121_2 := NBAa_Af.out
 have hns121_3 := NBAb_Af.out
 have hns121_4 := NBAc_Af.out
 have hms121_0 := NBAf_Ae.out
 have hms121_1 := NBAf_Ad.out
 have hms121_2 := NBAf_Aa.out
 have hms121_3 := NBAf_Ab.out
 have hms121_4 := NBAf_Ac.out
 have hs122 : w118.cell? ⟨gbAf, 3, none⟩ = some (.int .i64 0) := (blk_cell BKAf.out 3).trans rfl
 have hfs122 := blk_frozen BKAf.out 3
 have hns122_0 := NBAe_Af.out
 have hns122_1 := NBAd_Af.out
 have hns122_2 := NBAa_Af.out
 have hns122_3 := NBAb_Af.out
 have hns122_4 := NBAc_Af.out
 have hms122_0 := NBAf_Ae.out
 have hms122_1 := NBAf_Ad.out
 have hms122_2 := NBAf_Aa.out
 have hms122_3 := NBAf_Ab.out
 have hms122_4 := NBAf_Ac.out
 have hs123 : w118.cell? ⟨gbAf, 4, none⟩ = some (.int .i64 0) := (blk_cell BKAf.out 4).trans rfl
 have hfs123 := blk_frozen BKAf.out 4
 have hns123_0 := NBAe_Af.out
 have hns123_1 := NBAd_Af.out
 have hns123_2 := NBAa_Af.out
 have hns123_3 := NBAb_Af.out
 have hns123_4 := NBAc_Af.out
 have hms123_0 := NBAf_Ae.out
 have hms123_1 := NBAf_Ad.out
 have hms123_2 := NBAf_Aa.out
 have hms123_3 := NBAf_Ab.out
 have hms123_4 := NBAf_Ac.out
 have hs125 : w118.cell? ⟨gbAf, 5, none⟩ = some (.slice none 0 0) := (blk_cell BKAf.out 5).trans rfl
 have hfs125 := blk_frozen BKAf.out 5
 have hns125_0 := NBAe_Af.out
 have hns125_1 := NBAd_Af.out
 have hns125_2 := NBAa_Af.out
 have hns125_3 := NBAb_Af.out
 have hns125_4 := NBAc_Af.out
 have hms125_0 := NBAf_Ae.out
 have hms125_1 := NBAf_Ad.out
 have hms125_2 := NBAf_Aa.out
 have hms125_3 := NBAf_Ab.out
 have hms125_4 := NBAf_Ac.out
 refine skip_ (w1 := ?_) (by rfl) rfl ?_ ?_
 rotate_left
 ·
  go_simp
  rfl
 refine hK.out _ _ ⟨((cell_far (p := ⟨gbAf, _, none⟩) NBAa_Af.out _).trans (((cell_far (p := ⟨gbAf, _, none⟩) NBAa_Af.out _).trans (((cell_far (p := ⟨gbAf, _, none⟩) NBAa_Af.out _).trans (((cell_far (p := ⟨gbAf, _, none⟩) NBAa_Af.out _).trans (((cell_far (p := ⟨gbAf, _, none⟩) NBAa_Af.out _).trans (((cell_far (p := ⟨gbAf, _, none⟩) NBAa_Af.out _).trans (hHeld.1)))))))))))), ((cell_far (p := ⟨gbAf, _, none⟩) NBAa_Af.out _).trans (((cell_far (p := ⟨gbAf, _, none⟩) NBAa_Af.out _).trans (((cell_far (p := ⟨gbAf, _, none⟩) NBAa_Af.out _).trans (((cell_far (p := ⟨gbAf, _, none⟩) NBAa_Af.out _).trans (((cell_far (p := ⟨gbAf, _, none⟩) NBAa_Af.out _).trans (((cell_far (p := ⟨gbAf, _, none⟩) NBAa_Af.out _).trans (hHeld.2.1)))))))))))), ((cell_far (p := ⟨gbAf, _, none⟩) NBAa_Af.out _).trans (((cell_far (p := ⟨gbAf, _, none⟩) NBAa_Af.out _).trans (((cell_far (p := ⟨gbAf, _, none⟩) NBAa_Af.out _).trans (((cell_far (p := ⟨gbAf, _, none⟩) NBAa_Af.out _).trans (((cell_far (p := ⟨gbAf, _, none⟩) NBAa_Af.out _).trans (((cell_far (p := ⟨gbAf, _, none⟩) NBAa_Af.out _).trans (hHeld.2.2.1)))))))))))), ((cell_far (p := ⟨gbAf, _, none⟩) NBAa_Af.out _).trans (((cell_far (p := ⟨gbAf, _, none⟩) NBAa_Af.out _).trans (((cell_far (p := ⟨gbAf, _, none⟩) NBAa_Af.out _).trans (((cell_far (p := ⟨gbAf, _, none⟩) NBAa_Af.out _).trans (((cell_far (p := ⟨gbAf, _, none⟩) NBAa_Af.out _).trans (((cell_far (p := ⟨gbAf, _, none⟩) NBAa_Af.out _).trans (hHeld.2.2.2.1)))))))))))), ((cell_far (p := ⟨gbAf, _, none⟩) NBAa_Af.out _).trans (((cell_far (p := ⟨gbAf, _, none⟩) NBAa_Af.out _).trans (((cell_far (p := ⟨gbAf, _, none⟩) NBAa_Af.out _).trans (((cell_far (p := ⟨gbAf, _, none⟩) NBAa_Af.out _).trans (((cell_far (p := ⟨gbAf, _, none⟩) NBAa_Af.out _).trans (((cell_far (p := ⟨gbAf, _, none⟩) NBAa_Af.out _).trans (hHeld.2.2.2.2.1)))))))))))), ((cell_far (p := ⟨gbAf, _, none⟩) NBAa_Af.out _).trans (((cell_far (p := ⟨gbAf, _, none⟩) NBAa_Af.out _).trans (((cell_far (p := ⟨gbAf, _, none⟩) NBAa_Af.out _).trans (((cell_far (p := ⟨gbAf, _, none⟩) NBAa_Af.out _).trans (((cell_far (p := ⟨gbAf, _, none⟩) NBAa_Af.out _).trans (((cell_far (p := ⟨gbAf, _, none⟩) NBAa_Af.out _).trans (hHeld.2.2.2.2.2))))))))))))⟩ (fun hHeld => ?_)
 clear hK K
 refine pq_ 12 20 HT_ ?_
 refine done_ (done_of HT_.out (by kernel_rfl)) ?_
 try go_wp2
 go_ret
 exact ⟨by first | rfl | (simp [errW_none, errW_some] <;> rfl) | (simp [*, errW_none, errW_some] <;> rfl), by repeat (first | (with_reducible first | exact HB.out | apply below_alloc | apply pw_below_drewN | apply below_drew1 | refine below_set ?_ GEAe.out | refine below_set ?_ GEAd.out | refine below_set ?_ GEAa.out | refine below_set ?_ GEAb.out | refine below_set ?_ GEAc.out | refine below_set ?_ GEAf.out) | exact HB.out)⟩
def plaitinglaw5_FrameTurn.Pure : Prop := ∀ (a0_0 : Int) (a0_1 : Int) (a0_2 : Int) (a0_3 : Int) (a0_4 : Int) (l0_5 : List Int) (a1_0 : Int) (a1_1 : Int) (a1_2 : Int) (a1_3 : Int) (a1_4 : Int) (l1_5 : List (S26)) (l2 : List Int) (a3 : Int) (a4 : Int), ((Lit.int .i64 a0_0).wf = true) → ((Lit.int .i64 a0_1).wf = true) → ((Lit.int .i64 a0_2).wf = true) → ((Lit.int .i64 a0_3).wf = true) → ((Lit.int .i64 a0_4).wf = true) → (l0_5.length ≤ maxLen ∧ ∀ y_ ∈ l0_5, (Lit.int .i64 y_).wf = true) → ((Lit.int .i64 a1_0).wf = true) → ((Lit.int .i64 a1_1).wf = true) → ((Lit.int .i64 a1_2).wf = true) → ((Lit.int .i64 a1_3).wf = true) → ((Lit.int .i64 a1_4).wf = true) → (l1_5.length ≤ maxLen ∧ ∀ y_ ∈ l1_5, ok26 y_) → (l2.length ≤ maxLen) → (l2.length * 8 ≤ 140737488351232) → (∀ y_ ∈ l2, (Lit.int .i64 y_).wf = true) → ((Lit.int .i64 a3).wf = true) → ((Lit.int .i64 a4).wf = true) → ∃ k, plaitinglaw5_FrameTurn.f k a0_0 a0_1 a0_2 a0_3 a0_4 l0_5 a1_0 a1_1 a1_2 a1_3 a1_4 l1_5 l2 a3 a4 = some true
theorem plaitinglaw5_FrameTurn.walk (P : plaitinglaw5_FrameTurn.Pure) (a0_0 : Int) (a0_1 : Int) (a0_2 : Int) (a0_3 : Int) (a0_4 : Int) (A0_5 : Option Addr) (c0_5 : Nat) (l0_5 : List Int) (a1_0 : Int) (a1_1 : Int) (a1_2 : Int) (a1_3 : Int) (a1_4 : Int) (A1_5 : Option Addr) (c1_5 : Nat) (l1_5 : List (S26)) (A2 : Option Addr) (c2 : Nat) (l2 : List Int) (a3 : Int) (a4 : Int) (w : World) (q0 : (Lit.int .i64 a0_0).wf = true) (q1 : (Lit.int .i64 a0_1).wf = true) (q2 : (Lit.int .i64 a0_2).wf = true) (q3 : (Lit.int .i64 a0_3).wf = true) (q4 : (Lit.int .i64 a0_4).wf = true) (q5 : l0_5.length ≤ maxLen ∧ ∀ y_ ∈ l0_5, (Lit.int .i64 y_).wf = true) (q6 : (Lit.int .i64 a1_0).wf = true) (q7 : (Lit.int .i64 a1_1).wf = true) (q8 : (Lit.int .i64 a1_2).wf = true) (q9 : (Lit.int .i64 a1_3).wf = true) (q10 : (Lit.int .i64 a1_4).wf = true) (q11 : l1_5.length ≤ maxLen ∧ ∀ y_ ∈ l1_5, ok26 y_) (q12 : l2.length ≤ maxLen) (q13 : l2.length * 8 ≤ 140737488351232) (q14 : ∀ y_ ∈ l2, (Lit.int .i64 y_).wf = true) (q15 : (Lit.int .i64 a3).wf = true) (q16 : (Lit.int .i64 a4).wf = true) (hr0_5 : Kd.C (Kd.int .i64) w A0_5 l0_5.length l0_5) (hc0_5 : l0_5.length ≤ c0_5) (hr1_5 : Kd.C k26 w A1_5 l1_5.length l1_5) (hc1_5 : l1_5.length ≤ c1_5) (hr2 : Kd.C (Kd.int .i64) w A2 l2.length l2) (hc2 : l2.length ≤ c2) :
  Calls Try.prog 10 #[.agg #[.int .i64 a0_0, .int .i64 a0_1, .int .i64 a0_2, .int .i64 a0_3, .int .i64 a0_4, .slice A0_5 l0_5.length c0_5], .agg #[.int .i64 a1_0, .int .i64 a1_1, .int .i64 a1_2, .int .i64 a1_3, .int .i64 a1_4, .slice A1_5 l1_5.length c1_5], .slice A2 l2.length c2, .int .i64 a3, .int .i64 a4] w fun e w' => e = .returned (.bool true) ∧ Below w.heap.size w w' := by
 obtain ⟨k, h⟩ := P a0_0 a0_1 a0_2 a0_3 a0_4 l0_5 a1_0 a1_1 a1_2 a1_3 a1_4 l1_5 l2 a3 a4 q0 q1 q2 q3 q4 q5 q6 q7 q8 q9 q10 q11 q12 q13 q14 q15 q16
 refine (plaitinglaw5_FrameTurn.calls k a0_0 a0_1 a0_2 a0_3 a0_4 A0_5 c0_5 l0_5 a1_0 a1_1 a1_2 a1_3 a1_4 A1_5 c1_5 l1_5 A2 c2 l2 a3 a4 true w hr0_5 hc0_5 hr1_5 hc1_5 hr2 hc2 rfl h).mono ?_
 rintro e w' ⟨rfl, hd⟩
 exact ⟨rfl, hd⟩
end Go.Proofs.Ytcpohmfkmgcjkaa.P
