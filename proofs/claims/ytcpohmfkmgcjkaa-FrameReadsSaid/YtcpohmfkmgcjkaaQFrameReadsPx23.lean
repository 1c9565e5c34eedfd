/- Printed by a program of this session (myprint) out of the translation: the functions as plain Lean functions, and that the calls compute them. What counts is Lean's check. -/
import Derived.Test.YtcpohmfkmgcjkaaQFrameReadsOks
import Derived.Test.YtcpohmfkmgcjkaaQFrameReadsPx0
import Derived.Test.YtcpohmfkmgcjkaaQFrameReadsPx1
import Derived.Test.YtcpohmfkmgcjkaaQFrameReadsPx8
import Derived.Test.YtcpohmfkmgcjkaaQFrameReadsPx10
import Derived.Test.YtcpohmfkmgcjkaaQFrameReadsPx12
import Derived.Test.YtcpohmfkmgcjkaaQFrameReadsPx13
import Derived.Test.YtcpohmfkmgcjkaaQFrameReadsPx15
import Derived.Test.YtcpohmfkmgcjkaaQFrameReadsPx19
import Derived.Test.YtcpohmfkmgcjkaaQFrameReadsPx20
import Derived.Test.YtcpohmfkmgcjkaaQFrameReadsPx22
import Derived.Test.YtcpohmfkmgcjkaaQFrameReadsShort
namespace Go.Proofs.Ytcpohmfkmgcjkaa.P
open Go.RowKit Go.Proofs.YtcpohmfkmgcjkaaW.PrintWords Go.Proofs.YtcpohmfkmgcjkaaW.PrintLast Go.Proofs.YtcpohmfkmgcjkaaW.PrintMore
attribute [local go_sem] max2_int min2_int max_two min_two max_three min_three max_four min_four
set_option linter.unusedVariables false
set_option linter.unusedSimpArgs false
attribute [-simp] ByteArray.size_extract ByteArray.size_append ByteArray.extract_append_extract
attribute [-go_sem] ByteArray.size_append'
def plaitinglaw5_FrameReads.l0 : Nat → List ByteArray → Int → Int → Int → Int → Int → Int → List Int → Option (Bool)
 | 0, _, _, _, _, _, _, _, _ => none
 | k + 1, x20, x21, xAi000, xAi001, xAi002, xAi003, xAi004, xAi005 => if x21 < (x20.length : Int) then (if 0 ≤ x21 then ((frame_Read.f xAi000 xAi001 xAi002 xAi003 xAi004 xAi005 (rdOf ByteArray.empty x20 x21)).bind fun btBb => ((plaitingref5_Read.f k xAi000 xAi001 xAi002 xAi003 xAi004 xAi005 (rdOf ByteArray.empty x20 x21)).bind fun btBe => (if btBb.2.2.2.2.2.2 = btBe.2.2.2.2.2.2 then ((plaitingref5_Same.f k btBb.1 btBb.2.1 btBb.2.2.1 btBb.2.2.2.1 btBb.2.2.2.2.1 btBb.2.2.2.2.2.1 btBe.1 btBe.2.1 btBe.2.2.1 btBe.2.2.2.1 btBe.2.2.2.2.1 btBe.2.2.2.2.2.1).bind fun tCb => (if tCb = true then (plaitinglaw5_FrameReads.l0 k x20 (wrap64 (x21 + 1)) xAi000 xAi001 xAi002 xAi003 xAi004 xAi005) else (some false))) else (some false)))) else (none)) else (some true)
def plaitinglaw5_FrameReads.f (k : Nat) (a0_0 : Int) (a0_1 : Int) (a0_2 : Int) (a0_3 : Int) (a0_4 : Int) (l0_5 : List Int) (a1_0 : Int) (a1_1 : Int) (a1_2 : Int) (a1_3 : Int) (a1_4 : Int) (l1_5 : List (S26)) (l2 : List Int) (a3 : Int) (a4 : Int) (l5 : List Int) (a6 : ByteArray) : Option (Bool) := (plaitinglaw5_known.f).bind fun tCc => (if tCc = true then (if (a6.size : Int) > 200 then (some true) else ((plaitinglaw3_Make.f k a0_0 a0_1 a0_2 a0_3 a0_4 l0_5).bind fun btAh => ((plaitinglaw5_Make.f k btAh.1 btAh.2.1 btAh.2.2.1 btAh.2.2.2.1 btAh.2.2.2.2.1 btAh.2.2.2.2.2 a1_0 a1_1 a1_2 a1_3 a1_4 l1_5 l2).bind fun btAi => ((plaitingref5_Text.f k btAh.1 btAh.2.1 btAh.2.2.1 btAh.2.2.2.1 btAh.2.2.2.2.1 btAh.2.2.2.2.2 btAi.1 btAi.2.1 btAi.2.2.1 btAi.2.2.2.1 btAi.2.2.2.2.1 btAi.2.2.2.2.2).bind fun tAa => ((plaitinglaw5_within.f a4 (wrap64 ((tAa.size : Int) + 1))).bind fun tAg => (if 0 ≤ (wrap64 ((tAa.size : Int) - 17)) then (if (wrap64 ((tAa.size : Int) - 17)) ≤ (tAa.size : Int) then ((plaitinglaw5_within.f a3 ((tAa.extract 0 ((wrap64 ((tAa.size : Int) - 17)) : Int).toNat).size : Int)).bind fun tBq => ((plaitingref1_Turn.f k (tAa.extract 0 ((wrap64 ((tAa.size : Int) - 17)) : Int).toNat) tBq).bind fun tAt => ((plaitinglaw5_within.f a3 (tAa.size : Int)).bind fun tBm => ((plaitingref1_Turn.f k tAa tBm).bind fun tBa => (if 0 ≤ tAg then (if tAg ≤ (tAa.size : Int) then ((plaitinglaw1_Text.f k l5).bind fun tAm => (if (tAa.extract 0 (tAg : Int).toNat).size + tAm.size ≤ 9223372036854775807 then (if ((tAa.extract 0 (tAg : Int).toNat) ++ tAm).size + (tAa.extract (tAg : Int).toNat tAa.size).size ≤ 9223372036854775807 then ((plaitingref2_Wrap.f k tAt).bind fun tAz => ((plaitinglaw5_within.f a4 (tAt.size : Int)).bind fun tBf => ((plaitingref1_Turn.f k tAt tBf).bind fun tBc => ((plaitingref2_Wrap.f k tBc).bind fun tAw => ((plaitinglaw5_within.f a4 (wrap64 (((tAa.extract 0 ((wrap64 ((tAa.size : Int) - 17)) : Int).toNat).size : Int) + 1))).bind fun tAj => (if 0 ≤ tAj then (if tAj ≤ ((tAa.extract 0 ((wrap64 ((tAa.size : Int) - 17)) : Int).toNat).size : Int) then ((plaitingref2_Wrap.f k ((tAa.extract 0 ((wrap64 ((tAa.size : Int) - 17)) : Int).toNat).extract 0 (tAj : Int).toNat)).bind fun tAv => ((plaitinglaw5_within.f a3 20).bind fun tAy => ((plaitingref1_Bits.f k a4 (wrap64 (1 + tAy))).bind fun tAn => (if (tAa.extract 0 ((wrap64 ((tAa.size : Int) - 17)) : Int).toNat).size + tAn.size ≤ 9223372036854775807 then ((plaitingref2_Wrap.f k ((tAa.extract 0 ((wrap64 ((tAa.size : Int) - 17)) : Int).toNat) ++ tAn)).bind fun tAu => (plaitinglaw5_FrameReads.l0 k (([tBa, tAa.extract 0 (tAg : Int).toNat, ((tAa.extract 0 (tAg : Int).toNat) ++ tAm) ++ (tAa.extract (tAg : Int).toNat tAa.size), a6, tAz, tAw, tAv, tAu] : List ByteArray)) 0 btAh.1 btAh.2.1 btAh.2.2.1 btAh.2.2.2.1 btAh.2.2.2.2.1 btAh.2.2.2.2.2)) else (none))))) else (none)) else (none))))))) else (none)) else (none))) else (none)) else (none)))))) else (none)) else (none))))))) else (some false))
def plaitinglaw5_FrameReads.T10 : Bool × List (List Nat × List Nat) := (true, [([], []), ([], []), ([], []), ([2], [2]), ([1, 3], [1, 3]), ([0, 4, 4], [0, 4]), ([], []), ([], []), ([6, 7], [6, 7]), ([], []), ([], []), ([9, 10], [9, 10]), ([], []), ([12, 5], [12]), ([11, 13], [11, 13]), ([], []), ([], []), ([15, 16], [15, 16]), ([14, 17], [14, 17]), ([], []), ([], []), ([20, 13], [20]), ([], []), ([], []), ([], []), ([24], [24]), ([23, 25, 21], [23, 25]), ([22, 26, 26], [22, 26]), ([27, 27], [27]), ([], []), ([], []), ([], []), ([31], [31]), ([32], [32]), ([30, 33, 28], [30, 33]), ([29, 34], [29, 34]), ([35, 34], [35]), ([], []), ([], []), ([], []), ([39, 36], [39]), ([40], [40]), ([38, 41, 40], [38, 41]), ([37, 42], [37, 42]), ([43, 42], [43]), ([5, 8, 18, 19, 21, 28, 36, 44], [5, 8, 18, 19, 21, 28, 36, 44]), ([45, 44, 0, 1, 2, 3, 4, 5, 6, 7, 8, 9, 10, 11, 12, 13, 14, 15, 16, 17, 18, 19, 20, 21, 22, 23, 24, 25, 26, 27, 28, 29, 30, 31, 32, 33, 34, 35, 36, 37, 38, 39, 40, 41, 42, 43, 44, 45], [45])])
def plaitinglaw5_FrameReads.B10 : List Nat := [0, 0, 0, 4, 14, 31, 0, 0, 192, 0, 0, 1536, 0, 4159, 15935, 0, 0, 98304, 261695, 0, 0, 1060927, 0, 0, 0, 16777216, 61878335, 133181503, 267399231, 0, 0, 0, 2147483648, 6442450944, 16641962047, 34358702143, 68718440511, 0, 0, 0, 687193731135, 1786705358911, 4260606521407, 8796091985983, 17592185008191, 35184372088831, 70368744177663]
theorem plaitinglaw5_FrameReads.tab10 : rtab .any (opsOf Try.f7 10) = plaitinglaw5_FrameReads.T10 := by kernel_rfl
theorem plaitinglaw5_FrameReads.bits10 : waitsOk plaitinglaw5_FrameReads.T10.2 plaitinglaw5_FrameReads.B10 = true := by kernel_rfl
def plaitinglaw5_FrameReads.T14 : Bool × List (List Nat × List Nat) := (true, [([], []), ([], []), ([], []), ([1, 2], [1, 2]), ([3], [3]), ([0, 4], [0, 4]), ([5], [5]), ([6], [6]), ([6], [6]), ([], []), ([9, 7, 5, 0, 1, 2, 3, 4, 5, 6, 7, 9], [7, 9]), ([8, 10, 0, 1, 2, 3, 4, 5, 6, 7, 8, 9, 10], [8])])
def plaitinglaw5_FrameReads.B14 : List Nat := [0, 0, 0, 6, 14, 31, 63, 127, 127, 0, 767, 2047]
theorem plaitinglaw5_FrameReads.tab14 : rtab .any (opsOf Try.f7 14) = plaitinglaw5_FrameReads.T14 := by kernel_rfl
theorem plaitinglaw5_FrameReads.bits14 : waitsOk plaitinglaw5_FrameReads.T14.2 plaitinglaw5_FrameReads.B14 = true := by kernel_rfl
def plaitinglaw5_FrameReads.T15 : Bool × List (List Nat × List Nat) := (true, [([], []), ([], []), ([], []), ([1, 2], [1, 2]), ([3], [3]), ([0, 4], [0, 4]), ([5], [5]), ([6], [6]), ([6], [6]), ([], []), ([9, 7, 5, 0, 1, 2, 3, 4, 5, 6, 7, 9], [7, 9]), ([8, 10, 0, 1, 2, 3, 4, 5, 6, 7, 8, 9, 10], [8])])
def plaitinglaw5_FrameReads.B15 : List Nat := [0, 0, 0, 6, 14, 31, 63, 127, 127, 0, 767, 2047]
theorem plaitinglaw5_FrameReads.tab15 : rtab .any (opsOf Try.f7 15) = plaitinglaw5_FrameReads.T15 := by kernel_rfl
theorem plaitinglaw5_FrameReads.bits15 : waitsOk plaitinglaw5_FrameReads.T15.2 plaitinglaw5_FrameReads.B15 = true := by kernel_rfl
set_option maxHeartbeats 8000000 in
set_option maxRecDepth 100000 in
theorem plaitinglaw5_FrameReads.calls (k : Nat) (a0_0 : Int) (a0_1 : Int) (a0_2 : Int) (a0_3 : Int) (a0_4 : Int) (A0_5 : Option Addr) (c0_5 : Nat) (l0_5 : List Int) (a1_0 : Int) (a1_1 : Int) (a1_2 : Int) (a1_3 : Int) (a1_4 : Int) (A1_5 : Option Addr) (c1_5 : Nat) (l1_5 : List (S26)) (A2 : Option Addr) (c2 : Nat) (l2 : List Int) (a3 : Int) (a4 : Int) (A5 : Option Addr) (c5 : Nat) (l5 : List Int) (a6 : ByteArray) (r : Bool) (w : World) (hr0_5 : Kd.C (Kd.int .i64) w A0_5 l0_5.length l0_5) (hc0_5 : l0_5.length ≤ c0_5) (hr1_5 : Kd.C k26 w A1_5 l1_5.length l1_5) (hc1_5 : l1_5.length ≤ c1_5) (hr2 : Kd.C (Kd.int .i64) w A2 l2.length l2) (hc2 : l2.length ≤ c2) (hr5 : Kd.C (Kd.int .i64) w A5 l5.length l5) (hc5 : l5.length ≤ c5) (hrt : r = true) (h : plaitinglaw5_FrameReads.f k a0_0 a0_1 a0_2 a0_3 a0_4 l0_5 a1_0 a1_1 a1_2 a1_3 a1_4 l1_5 l2 a3 a4 l5 a6 = some r) :
  Calls Try.prog 7 #[.agg #[.int .i64 a0_0, .int .i64 a0_1, .int .i64 a0_2, .int .i64 a0_3, .int .i64 a0_4, .slice A0_5 l0_5.length c0_5], .agg #[.int .i64 a1_0, .int .i64 a1_1, .int .i64 a1_2, .int .i64 a1_3, .int .i64 a1_4, .slice A1_5 l1_5.length c1_5], .slice A2 l2.length c2, .int .i64 a3, .int .i64 a4, .slice A5 l5.length c5, .string a6] w fun e w' => e = .returned (.bool r) ∧ Below w.heap.size w w' := by
 have HRT := Aside0.mk hrt
 clear hrt
 have hu24 := Try.underlying24
 have hu29 := Try.underlying29
 have HR0_5 := Aside0.mk hr0_5
 have HC0_5 := Aside0.mk hc0_5
 clear hr0_5 hc0_5
 have HR1_5 := Aside0.mk hr1_5
 have HC1_5 := Aside0.mk hc1_5
 clear hr1_5 hc1_5
 have HR2 := Aside0.mk hr2
 have HC2 := Aside0.mk hc2
 clear hr2 hc2
 have HR5 := Aside0.mk hr5
 have HC5 := Aside0.mk hc5
 clear hr5 hc5
 have HB := Aside0.mk (Below.refl w.heap.size w)
 have H : ((plaitinglaw5_known.f).bind fun tCc => (if tCc = true then (if (a6.size : Int) > 200 then (some true) else ((plaitinglaw3_Make.f k a0_0 a0_1 a0_2 a0_3 a0_4 l0_5).bind fun btAh => ((plaitinglaw5_Make.f k btAh.1 btAh.2.1 btAh.2.2.1 btAh.2.2.2.1 btAh.2.2.2.2.1 btAh.2.2.2.2.2 a1_0 a1_1 a1_2 a1_3 a1_4 l1_5 l2).bind fun btAi => ((plaitingref5_Text.f k btAh.1 btAh.2.1 btAh.2.2.1 btAh.2.2.2.1 btAh.2.2.2.2.1 btAh.2.2.2.2.2 btAi.1 btAi.2.1 btAi.2.2.1 btAi.2.2.2.1 btAi.2.2.2.2.1 btAi.2.2.2.2.2).bind fun tAa => ((plaitinglaw5_within.f a4 (wrap64 ((tAa.size : Int) + 1))).bind fun tAg => (if 0 ≤ (wrap64 ((tAa.size : Int) - 17)) then (if (wrap64 ((tAa.size : Int) - 17)) ≤ (tAa.size : Int) then ((plaitinglaw5_within.f a3 ((tAa.extract 0 ((wrap64 ((tAa.size : Int) - 17)) : Int).toNat).size : Int)).bind fun tBq => ((plaitingref1_Turn.f k (tAa.extract 0 ((wrap64 ((tAa.size : Int) - 17)) : Int).toNat) tBq).bind fun tAt => ((plaitinglaw5_within.f a3 (tAa.size : Int)).bind fun tBm => ((plaitingref1_Turn.f k tAa tBm).bind fun tBa => (if 0 ≤ tAg then (if tAg ≤ (tAa.size : Int) then ((plaitinglaw1_Text.f k l5).bind fun tAm => (if (tAa.extract 0 (tAg : Int).toNat).size + tAm.size ≤ 9223372036854775807 then (if ((tAa.extract 0 (tAg : Int).toNat) ++ tAm).size + (tAa.extract (tAg : Int).toNat tAa.size).size ≤ 9223372036854775807 then ((plaitingref2_Wrap.f k tAt).bind fun tAz => ((plaitinglaw5_within.f a4 (tAt.size : Int)).bind fun tBf => ((plaitingref1_Turn.f k tAt tBf).bind fun tBc => ((plaitingref2_Wrap.f k tBc).bind fun tAw => ((plaitinglaw5_within.f a4 (wrap64 (((tAa.extract 0 ((wrap64 ((tAa.size : Int) - 17)) : Int).toNat).size : Int) + 1))).bind fun tAj => (if 0 ≤ tAj then (if tAj ≤ ((tAa.extract 0 ((wrap64 ((tAa.size : Int) - 17)) : Int).toNat).size : Int) then ((plaitingref2_Wrap.f k ((tAa.extract 0 ((wrap64 ((tAa.size : Int) - 17)) : Int).toNat).extract 0 (tAj : Int).toNat)).bind fun tAv => ((plaitinglaw5_within.f a3 20).bind fun tAy => ((plaitingref1_Bits.f k a4 (wrap64 (1 + tAy))).bind fun tAn => (if (tAa.extract 0 ((wrap64 ((tAa.size : Int) - 17)) : Int).toNat).size + tAn.size ≤ 9223372036854775807 then ((plaitingref2_Wrap.f k ((tAa.extract 0 ((wrap64 ((tAa.size : Int) - 17)) : Int).toNat) ++ tAn)).bind fun tAu => (plaitinglaw5_FrameReads.l0 k (([tBa, tAa.extract 0 (tAg : Int).toNat, ((tAa.extract 0 (tAg : Int).toNat) ++ tAm) ++ (tAa.extract (tAg : Int).toNat tAa.size), a6, tAz, tAw, tAv, tAu] : List ByteArray)) 0 btAh.1 btAh.2.1 btAh.2.2.1 btAh.2.2.2.1 btAh.2.2.2.2.1 btAh.2.2.2.2.2)) else (none))))) else (none)) else (none))))))) else (none)) else (none))) else (none)) else (none)))))) else (none)) else (none))))))) else (some false))) = some r := h
 clear h
 replace H := Option.bind_eq_some_iff.mp H
 obtain ⟨tCc, A80, H⟩ := H
 replace H : (if tCc = true then (if (a6.size : Int) > 200 then (some true) else ((plaitinglaw3_Make.f k a0_0 a0_1 a0_2 a0_3 a0_4 l0_5).bind fun btAh => ((plaitinglaw5_Make.f k btAh.1 btAh.2.1 btAh.2.2.1 btAh.2.2.2.1 btAh.2.2.2.2.1 btAh.2.2.2.2.2 a1_0 a1_1 a1_2 a1_3 a1_4 l1_5 l2).bind fun btAi => ((plaitingref5_Text.f k btAh.1 btAh.2.1 btAh.2.2.1 btAh.2.2.2.1 btAh.2.2.2.2.1 btAh.2.2.2.2.2 btAi.1 btAi.2.1 btAi.2.2.1 btAi.2.2.2.1 btAi.2.2.2.2.1 btAi.2.2.2.2.2).bind fun tAa => ((plaitinglaw5_within.f a4 (wrap64 ((tAa.size : Int) + 1))).bind fun tAg => (if 0 ≤ (wrap64 ((tAa.size : Int) - 17)) then (if (wrap64 ((tAa.size : Int) - 17)) ≤ (tAa.size : Int) then ((plaitinglaw5_within.f a3 ((tAa.extract 0 ((wrap64 ((tAa.size : Int) - 17)) : Int).toNat).size : Int)).bind fun tBq => ((plaitingref1_Turn.f k (tAa.extract 0 ((wrap64 ((tAa.size : Int) - 17)) : Int).toNat) tBq).bind fun tAt => ((plaitinglaw5_within.f a3 (tAa.size : Int)).bind fun tBm => ((plaitingref1_Turn.f k tAa tBm).bind fun tBa => (if 0 ≤ tAg then (if tAg ≤ (tAa.size : Int) then ((plaitinglaw1_Text.f k l5).bind fun tAm => (if (tAa.extract 0 (tAg : Int).toNat).size + tAm.size ≤ 9223372036854775807 then (if ((tAa.extract 0 (tAg : Int).toNat) ++ tAm).size + (tAa.extract (tAg : Int).toNat tAa.size).size ≤ 9223372036854775807 then ((plaitingref2_Wrap.f k tAt).bind fun tAz => ((plaitinglaw5_within.f a4 (tAt.size : Int)).bind fun tBf => ((plaitingref1_Turn.f k tAt tBf).bind fun tBc => ((plaitingref2_Wrap.f k tBc).bind fun tAw => ((plaitinglaw5_within.f a4 (wrap64 (((tAa.extract 0 ((wrap64 ((tAa.size : Int) - 17)) : Int).toNat).size : Int) + 1))).bind fun tAj => (if 0 ≤ tAj then (if tAj ≤ ((tAa.extract 0 ((wrap64 ((tAa.size : Int) - 17)) : Int).toNat).size : Int) then ((plaitingref2_Wrap.f k ((tAa.extract 0 ((wrap64 ((tAa.size : Int) - 17)) : Int).toNat).extract 0 (tAj : Int).toNat)).bind fun tAv => ((plaitinglaw5_within.f a3 20).bind fun tAy => ((plaitingref1_Bits.f k a4 (wrap64 (1 + tAy))).bind fun tAn => (if (tAa.extract 0 ((wrap64 ((tAa.size : Int) - 17)) : Int).toNat).size + tAn.size ≤ 9223372036854775807 then ((plaitingref2_Wrap.f k ((tAa.extract 0 ((wrap64 ((tAa.size : Int) - 17)) : Int).toNat) ++ tAn)).bind fun tAu => (plaitinglaw5_FrameReads.l0 k (([tBa, tAa.extract 0 (tAg : Int).toNat, ((tAa.extract 0 (tAg : Int).toNat) ++ tAm) ++ (tAa.extract (tAg : Int).toNat tAa.size), a6, tAz, tAw, tAv, tAu] : List ByteArray)) 0 btAh.1 btAh.2.1 btAh.2.2.1 btAh.2.2.2.1 btAh.2.2.2.2.1 btAh.2.2.2.2.2)) else (none))))) else (none)) else (none))))))) else (none)) else (none))) else (none)) else (none)))))) else (none)) else (none))))))) else (some false)) = some r := H
 have A8 := Aside0.mk A80
 clear A80
 by_cases c9 : tCc = true
 rotate_left
 ·
  replace c9 := Bool.eq_false_iff.mpr c9
  subst c9
  have H1 : (some false) = some r := by rw [if_neg (show ¬ (false = true) by decide)] at H; exact H
  clear H
  have H := H1
  clear H1
  exact absurd ((Option.some.inj H).trans HRT.out) (by decide)
 subst c9
 have H1 : (if (a6.size : Int) > 200 then (some true) else ((plaitinglaw3_Make.f k a0_0 a0_1 a0_2 a0_3 a0_4 l0_5).bind fun btAh => ((plaitinglaw5_Make.f k btAh.1 btAh.2.1 btAh.2.2.1 btAh.2.2.2.1 btAh.2.2.2.2.1 btAh.2.2.2.2.2 a1_0 a1_1 a1_2 a1_3 a1_4 l1_5 l2).bind fun btAi => ((plaitingref5_Text.f k btAh.1 btAh.2.1 btAh.2.2.1 btAh.2.2.2.1 btAh.2.2.2.2.1 btAh.2.2.2.2.2 btAi.1 btAi.2.1 btAi.2.2.1 btAi.2.2.2.1 btAi.2.2.2.2.1 btAi.2.2.2.2.2).bind fun tAa => ((plaitinglaw5_within.f a4 (wrap64 ((tAa.size : Int) + 1))).bind fun tAg => (if 0 ≤ (wrap64 ((tAa.size : Int) - 17)) then (if (wrap64 ((tAa.size : Int) - 17)) ≤ (tAa.size : Int) then ((plaitinglaw5_within.f a3 ((tAa.extract 0 ((wrap64 ((tAa.size : Int) - 17)) : Int).toNat).size : Int)).bind fun tBq => ((plaitingref1_Turn.f k (tAa.extract 0 ((wrap64 ((tAa.size : Int) - 17)) : Int).toNat) tBq).bind fun tAt => ((plaitinglaw5_within.f a3 (tAa.size : Int)).bind fun tBm => ((plaitingref1_Turn.f k tAa tBm).bind fun tBa => (if 0 ≤ tAg then (if tAg ≤ (tAa.size : Int) then ((plaitinglaw1_Text.f k l5).bind fun tAm => (if (tAa.extract 0 (tAg : Int).toNat).size + tAm.size ≤ 9223372036854775807 then (if ((tAa.extract 0 (tAg : Int).toNat) ++ tAm).size + (tAa.extract (tAg : Int).toNat tAa.size).size ≤ 9223372036854775807 then ((plaitingref2_Wrap.f k tAt).bind fun tAz => ((plaitinglaw5_within.f a4 (tAt.size : Int)).bind fun tBf => ((plaitingref1_Turn.f k tAt tBf).bind fun tBc => ((plaitingref2_Wrap.f k tBc).bind fun tAw => ((plaitinglaw5_within.f a4 (wrap64 (((tAa.extract 0 ((wrap64 ((tAa.size : Int) - 17)) : Int).toNat).size : Int) + 1))).bind fun tAj => (if 0 ≤ tAj then (if tAj ≤ ((tAa.extract 0 ((wrap64 ((tAa.size : Int) - 17)) : Int).toNat).size : Int) then ((plaitingref2_Wrap.f k ((tAa.extract 0 ((wrap64 ((tAa.size : Int) - 17)) : Int).toNat).extract 0 (tAj : Int).toNat)).bind fun tAv => ((plaitinglaw5_within.f a3 20).bind fun tAy => ((plaitingref1_Bits.f k a4 (wrap64 (1 + tAy))).bind fun tAn => (if (tAa.extract 0 ((wrap64 ((tAa.size : Int) - 17)) : Int).toNat).size + tAn.size ≤ 9223372036854775807 then ((plaitingref2_Wrap.f k ((tAa.extract 0 ((wrap64 ((tAa.size : Int) - 17)) : Int).toNat) ++ tAn)).bind fun tAu => (plaitinglaw5_FrameReads.l0 k (([tBa, tAa.extract 0 (tAg : Int).toNat, ((tAa.extract 0 (tAg : Int).toNat) ++ tAm) ++ (tAa.extract (tAg : Int).toNat tAa.size), a6, tAz, tAw, tAv, tAu] : List ByteArray)) 0 btAh.1 btAh.2.1 btAh.2.2.1 btAh.2.2.2.1 btAh.2.2.2.2.1 btAh.2.2.2.2.2)) else (none))))) else (none)) else (none))))))) else (none)) else (none))) else (none)) else (none)))))) else (none)) else (none))))))) = some r := by rw [if_pos rfl] at H; exact H
 clear H
 have H := H1
 clear H1
 by_cases c10 : (a6.size : Int) > 200
 ·
  rw [if_pos c10] at H
  have c10b0 : decide (200 < (a6.size : Int)) = true := decide_eq_true c10
  have c10b1 : decide (200 < a6.size) = true := decide_eq_true (by omega)
  clear c10
  obtain rfl := Option.some.inj H
  go_enter Try.func7, Try.ntmps7
  go_wp2_with (first | ((with_reducible refine gate_dst (N := 7) rfl ?_); refine box_event ?hg (N := 7) ?hd (cs := #[.int .i64 a0_0, .int .i64 a0_1, .int .i64 a0_2, .int .i64 a0_3, .int .i64 a0_4, .slice A0_5 l0_5.length c0_5]) (t := 24) ?hr ?_; (case hd => rfl); (case hg => rfl); (case hr => first | (go_simp; done) | (go_simp; rfl)); intro gbAe hg w11 hbox hb; have BKAe := Aside0.mk (hbox); have GWAe := Aside0.mk ((by rw [hg]; exact (below_size (pH_ HB.out)) : w.heap.size ≤ gbAe)); have GEAe := Aside0.mk ((by rw [hg]; exact (below_size (pH_ HB.out)) : w.heap.size ≤ gbAe)); replace HB := Aside0.mk (below_step (pH_ HB.out) hb); clear hb hbox hg) | ((with_reducible refine gate_dst (N := 8) rfl ?_); refine box_event ?hg (N := 8) ?hd (cs := #[.int .i64 a1_0, .int .i64 a1_1, .int .i64 a1_2, .int .i64 a1_3, .int .i64 a1_4, .slice A1_5 l1_5.length c1_5]) (t := 29) ?hr ?_; (case hd => rfl); (case hg => rfl); (case hr => first | (go_simp; done) | (go_simp; rfl)); intro gbAf hg w12 hbox hb; have BKAf := Aside0.mk (hbox); have GWAf := Aside0.mk ((by rw [hg]; exact (below_size (pH_ HB.out)) : w.heap.size ≤ gbAf)); have GEAf := Aside0.mk ((by rw [hg]; exact (below_size (pH_ HB.out)) : w.heap.size ≤ gbAf)); have NBAe_Af := Aside0.mk (ltB_ hg BKAe.out); have NBAf_Ae := Aside0.mk (ltB_ hg BKAe.out).symm; replace BKAe := Aside0.mk (blk_below (pB_ BKAe.out) hb); replace HB := Aside0.mk (below_step (pH_ HB.out) hb); clear hb hbox hg) | ((with_reducible refine gate_callee (f := 18) rfl ?_); refine goesL_ (some 26) rfl rfl Try.func18 (by kernel_rfl) rfl #[] rfl (by (try simp only [List.map_toArray, List.map_cons, List.map_nil]); first | done | rfl | (simp only [List.length_drop, List.length_take]; rfl)) ?_; (with_reducible refine (plaitinglaw5_known.calls  true _ A8.out).mono ?_); rintro e w13 ⟨rfl, hb⟩; refine ⟨_, rfl, ?_⟩; replace BKAe := Aside0.mk (blk_below (pB_ BKAe.out) hb); replace BKAf := Aside0.mk (blk_below (pB_ BKAf.out) hb); replace HB := Aside0.mk (below_step (pH_ HB.out) hb); (try clear hb); (try clear hb2); (try clear hk); (try clear hi)))
  go_ret
  exact ⟨by first | rfl | (simp [errW_none, errW_some] <;> rfl) | (simp [*, errW_none, errW_some] <;> rfl), by repeat (first | (with_reducible first | exact HB.out | apply below_alloc | apply pw_below_drewN | apply below_drew1 | refine below_set ?_ GEAe.out | refine below_set ?_ GEAf.out) | exact HB.out)⟩
 rw [if_neg c10] at H
 have c10b0 : decide (200 < (a6.size : Int)) = false := decide_eq_false c10
 have c10b1 : decide (200 < a6.size) = false := decide_eq_false (by omega)
 clear c10
 replace H := Option.bind_eq_some_iff.mp H
 obtain ⟨⟨tAh, tAp, tAq, tAr, tAs, tAk⟩, A140, H⟩ := H
 replace H : ((plaitinglaw5_Make.f k tAh tAp tAq tAr tAs tAk a1_0 a1_1 a1_2 a1_3 a1_4 l1_5 l2).bind fun btAi => ((plaitingref5_Text.f k tAh tAp tAq tAr tAs tAk btAi.1 btAi.2.1 btAi.2.2.1 btAi.2.2.2.1 btAi.2.2.2.2.1 btAi.2.2.2.2.2).bind fun tAa => ((plaitinglaw5_within.f a4 (wrap64 ((tAa.size : Int) + 1))).bind fun tAg => (if 0 ≤ (wrap64 ((tAa.size : Int) - 17)) then (if (wrap64 ((tAa.size : Int) - 17)) ≤ (tAa.size : Int) then ((plaitinglaw5_within.f a3 ((tAa.extract 0 ((wrap64 ((tAa.size : Int) - 17)) : Int).toNat).size : Int)).bind fun tBq => ((plaitingref1_Turn.f k (tAa.extract 0 ((wrap64 ((tAa.size : Int) - 17)) : Int).toNat) tBq).bind fun tAt => ((plaitinglaw5_within.f a3 (tAa.size : Int)).bind fun tBm => ((plaitingref1_Turn.f k tAa tBm).bind fun tBa => (if 0 ≤ tAg then (if tAg ≤ (tAa.size : Int) then ((plaitinglaw1_Text.f k l5).bind fun tAm => (if (tAa.extract 0 (tAg : Int).toNat).size + tAm.size ≤ 9223372036854775807 then (if ((tAa.extract 0 (tAg : Int).toNat) ++ tAm).size + (tAa.extract (tAg : Int).toNat tAa.size).size ≤ 9223372036854775807 then ((plaitingref2_Wrap.f k tAt).bind fun tAz => ((plaitinglaw5_within.f a4 (tAt.size : Int)).bind fun tBf => ((plaitingref1_Turn.f k tAt tBf).bind fun tBc => ((plaitingref2_Wrap.f k tBc).bind fun tAw => ((plaitinglaw5_within.f a4 (wrap64 (((tAa.extract 0 ((wrap64 ((tAa.size : Int) - 17)) : Int).toNat).size : Int) + 1))).bind fun tAj => (if 0 ≤ tAj then (if tAj ≤ ((tAa.extract 0 ((wrap64 ((tAa.size : Int) - 17)) : Int).toNat).size : Int) then ((plaitingref2_Wrap.f k ((tAa.extract 0 ((wrap64 ((tAa.size : Int) - 17)) : Int).toNat).extract 0 (tAj : Int).toNat)).bind fun tAv => ((plaitinglaw5_within.f a3 20).bind fun tAy => ((plaitingref1_Bits.f k a4 (wrap64 (1 + tAy))).bind fun tAn => (if (tAa.extract 0 ((wrap64 ((tAa.size : Int) - 17)) : Int).toNat).size + tAn.size ≤ 9223372036854775807 then ((plaitingref2_Wrap.f k ((tAa.extract 0 ((wrap64 ((tAa.size : Int) - 17)) : Int).toNat) ++ tAn)).bind fun tAu => (plaitinglaw5_FrameReads.l0 k (([tBa, tAa.extract 0 (tAg : Int).toNat, ((tAa.extract 0 (tAg : Int).toNat) ++ tAm) ++ (tAa.extract (tAg : Int).toNat tAa.size), a6, tAz, tAw, tAv, tAu] : List ByteArray)) 0 tAh tAp tAq tAr tAs tAk)) else (none))))) else (none)) else (none))))))) else (none)) else (none))) else (none)) else (none)))))) else (none)) else (none))))) = some r := H
 have A14 := Aside0.mk A140
 clear A140
 replace H := Option.bind_eq_some_iff.mp H
 obtain ⟨⟨tAi, tCg, tCh, tCi, tCj, tCd⟩, A150, H⟩ := H
 replace H : ((plaitingref5_Text.f k tAh tAp tAq tAr tAs tAk tAi tCg tCh tCi tCj tCd).bind fun tAa => ((plaitinglaw5_within.f a4 (wrap64 ((tAa.size : Int) + 1))).bind fun tAg => (if 0 ≤ (wrap64 ((tAa.size : Int) - 17)) then (if (wrap64 ((tAa.size : Int) - 17)) ≤ (tAa.size : Int) then ((plaitinglaw5_within.f a3 ((tAa.extract 0 ((wrap64 ((tAa.size : Int) - 17)) : Int).toNat).size : Int)).bind fun tBq => ((plaitingref1_Turn.f k (tAa.extract 0 ((wrap64 ((tAa.size : Int) - 17)) : Int).toNat) tBq).bind fun tAt => ((plaitinglaw5_within.f a3 (tAa.size : Int)).bind fun tBm => ((plaitingref1_Turn.f k tAa tBm).bind fun tBa => (if 0 ≤ tAg then (if tAg ≤ (tAa.size : Int) then ((plaitinglaw1_Text.f k l5).bind fun tAm => (if (tAa.extract 0 (tAg : Int).toNat).size + tAm.size ≤ 9223372036854775807 then (if ((tAa.extract 0 (tAg : Int).toNat) ++ tAm).size + (tAa.extract (tAg : Int).toNat tAa.size).size ≤ 9223372036854775807 then ((plaitingref2_Wrap.f k tAt).bind fun tAz => ((plaitinglaw5_within.f a4 (tAt.size : Int)).bind fun tBf => ((plaitingref1_Turn.f k tAt tBf).bind fun tBc => ((plaitingref2_Wrap.f k tBc).bind fun tAw => ((plaitinglaw5_within.f a4 (wrap64 (((tAa.extract 0 ((wrap64 ((tAa.size : Int) - 17)) : Int).toNat).size : Int) + 1))).bind fun tAj => (if 0 ≤ tAj then (if tAj ≤ ((tAa.extract 0 ((wrap64 ((tAa.size : Int) - 17)) : Int).toNat).size : Int) then ((plaitingref2_Wrap.f k ((tAa.extract 0 ((wrap64 ((tAa.size : Int) - 17)) : Int).toNat).extract 0 (tAj : Int).toNat)).bind fun tAv => ((plaitinglaw5_within.f a3 20).bind fun tAy => ((plaitingref1_Bits.f k a4 (wrap64 (1 + tAy))).bind fun tAn => (if (tAa.extract 0 ((wrap64 ((tAa.size : Int) - 17)) : Int).toNat).size + tAn.size ≤ 9223372036854775807 then ((plaitingref2_Wrap.f k ((tAa.extract 0 ((wrap64 ((tAa.size : Int) - 17)) : Int).toNat) ++ tAn)).bind fun tAu => (plaitinglaw5_FrameReads.l0 k (([tBa, tAa.extract 0 (tAg : Int).toNat, ((tAa.extract 0 (tAg : Int).toNat) ++ tAm) ++ (tAa.extract (tAg : Int).toNat tAa.size), a6, tAz, tAw, tAv, tAu] : List ByteArray)) 0 tAh tAp tAq tAr tAs tAk)) else (none))))) else (none)) else (none))))))) else (none)) else (none))) else (none)) else (none)))))) else (none)) else (none)))) = some r := H
 have A15 := Aside0.mk A150
 clear A150
 replace H := Option.bind_eq_some_iff.mp H
 obtain ⟨tAa, A160, H⟩ := H
 replace H : ((plaitinglaw5_within.f a4 (wrap64 ((tAa.size : Int) + 1))).bind fun tAg => (if 0 ≤ (wrap64 ((tAa.size : Int) - 17)) then (if (wrap64 ((tAa.size : Int) - 17)) ≤ (tAa.size : Int) then ((plaitinglaw5_within.f a3 ((tAa.extract 0 ((wrap64 ((tAa.size : Int) - 17)) : Int).toNat).size : Int)).bind fun tBq => ((plaitingref1_Turn.f k (tAa.extract 0 ((wrap64 ((tAa.size : Int) - 17)) : Int).toNat) tBq).bind fun tAt => ((plaitinglaw5_within.f a3 (tAa.size : Int)).bind fun tBm => ((plaitingref1_Turn.f k tAa tBm).bind fun tBa => (if 0 ≤ tAg then (if tAg ≤ (tAa.size : Int) then ((plaitinglaw1_Text.f k l5).bind fun tAm => (if (tAa.extract 0 (tAg : Int).toNat).size + tAm.size ≤ 9223372036854775807 then (if ((tAa.extract 0 (tAg : Int).toNat) ++ tAm).size + (tAa.extract (tAg : Int).toNat tAa.size).size ≤ 9223372036854775807 then ((plaitingref2_Wrap.f k tAt).bind fun tAz => ((plaitinglaw5_within.f a4 (tAt.size : Int)).bind fun tBf => ((plaitingref1_Turn.f k tAt tBf).bind fun tBc => ((plaitingref2_Wrap.f k tBc).bind fun tAw => ((plaitinglaw5_within.f a4 (wrap64 (((tAa.extract 0 ((wrap64 ((tAa.size : Int) - 17)) : Int).toNat).size : Int) + 1))).bind fun tAj => (if 0 ≤ tAj then (if tAj ≤ ((tAa.extract 0 ((wrap64 ((tAa.size : Int) - 17)) : Int).toNat).size : Int) then ((plaitingref2_Wrap.f k ((tAa.extract 0 ((wrap64 ((tAa.size : Int) - 17)) : Int).toNat).extract 0 (tAj : Int).toNat)).bind fun tAv => ((plaitinglaw5_within.f a3 20).bind fun tAy => ((plaitingref1_Bits.f k a4 (wrap64 (1 + tAy))).bind fun tAn => (if (tAa.extract 0 ((wrap64 ((tAa.size : Int) - 17)) : Int).toNat).size + tAn.size ≤ 9223372036854775807 then ((plaitingref2_Wrap.f k ((tAa.extract 0 ((wrap64 ((tAa.size : Int) - 17)) : Int).toNat) ++ tAn)).bind fun tAu => (plaitinglaw5_FrameReads.l0 k (([tBa, tAa.extract 0 (tAg : Int).toNat, ((tAa.extract 0 (tAg : Int).toNat) ++ tAm) ++ (tAa.extract (tAg : Int).toNat tAa.size), a6, tAz, tAw, tAv, tAu] : List ByteArray)) 0 tAh tAp tAq tAr tAs tAk)) else (none))))) else (none)) else (none))))))) else (none)) else (none))) else (none)) else (none)))))) else (none)) else (none))) = some r := H
 have A16 := Aside0.mk A160
 clear A160
 replace H := Option.bind_eq_some_iff.mp H
 obtain ⟨tAg, A170, H⟩ := H
 replace H : (if 0 ≤ (wrap64 ((tAa.size : Int) - 17)) then (if (wrap64 ((tAa.size : Int) - 17)) ≤ (tAa.size : Int) then ((plaitinglaw5_within.f a3 ((tAa.extract 0 ((wrap64 ((tAa.size : Int) - 17)) : Int).toNat).size : Int)).bind fun tBq => ((plaitingref1_Turn.f k (tAa.extract 0 ((wrap64 ((tAa.size : Int) - 17)) : Int).toNat) tBq).bind fun tAt => ((plaitinglaw5_within.f a3 (tAa.size : Int)).bind fun tBm => ((plaitingref1_Turn.f k tAa tBm).bind fun tBa => (if 0 ≤ tAg then (if tAg ≤ (tAa.size : Int) then ((plaitinglaw1_Text.f k l5).bind fun tAm => (if (tAa.extract 0 (tAg : Int).toNat).size + tAm.size ≤ 9223372036854775807 then (if ((tAa.extract 0 (tAg : Int).toNat) ++ tAm).size + (tAa.extract (tAg : Int).toNat tAa.size).size ≤ 9223372036854775807 then ((plaitingref2_Wrap.f k tAt).bind fun tAz => ((plaitinglaw5_within.f a4 (tAt.size : Int)).bind fun tBf => ((plaitingref1_Turn.f k tAt tBf).bind fun tBc => ((plaitingref2_Wrap.f k tBc).bind fun tAw => ((plaitinglaw5_within.f a4 (wrap64 (((tAa.extract 0 ((wrap64 ((tAa.size : Int) - 17)) : Int).toNat).size : Int) + 1))).bind fun tAj => (if 0 ≤ tAj then (if tAj ≤ ((tAa.extract 0 ((wrap64 ((tAa.size : Int) - 17)) : Int).toNat).size : Int) then ((plaitingref2_Wrap.f k ((tAa.extract 0 ((wrap64 ((tAa.size : Int) - 17)) : Int).toNat).extract 0 (tAj : Int).toNat)).bind fun tAv => ((plaitinglaw5_within.f a3 20).bind fun tAy => ((plaitingref1_Bits.f k a4 (wrap64 (1 + tAy))).bind fun tAn => (if (tAa.extract 0 ((wrap64 ((tAa.size : Int) - 17)) : Int).toNat).size + tAn.size ≤ 9223372036854775807 then ((plaitingref2_Wrap.f k ((tAa.extract 0 ((wrap64 ((tAa.size : Int) - 17)) : Int).toNat) ++ tAn)).bind fun tAu => (plaitinglaw5_FrameReads.l0 k (([tBa, tAa.extract 0 (tAg : Int).toNat, ((tAa.extract 0 (tAg : Int).toNat) ++ tAm) ++ (tAa.extract (tAg : Int).toNat tAa.size), a6, tAz, tAw, tAv, tAu] : List ByteArray)) 0 tAh tAp tAq tAr tAs tAk)) else (none))))) else (none)) else (none))))))) else (none)) else (none))) else (none)) else (none)))))) else (none)) else (none)) = some r := H
 have A17 := Aside0.mk A170
 clear A170
 obtain ⟨ji18, hji18⟩ : ∃ j_ : Int, (wrap64 ((tAa.size : Int) - 17)) = j_ := ⟨_, rfl⟩
 replace H : (if 0 ≤ (ji18) then (if (ji18) ≤ (tAa.size : Int) then ((plaitinglaw5_within.f a3 ((tAa.extract 0 ((ji18) : Int).toNat).size : Int)).bind fun tBq => ((plaitingref1_Turn.f k (tAa.extract 0 ((ji18) : Int).toNat) tBq).bind fun tAt => ((plaitinglaw5_within.f a3 (tAa.size : Int)).bind fun tBm => ((plaitingref1_Turn.f k tAa tBm).bind fun tBa => (if 0 ≤ tAg then (if tAg ≤ (tAa.size : Int) then ((plaitinglaw1_Text.f k l5).bind fun tAm => (if (tAa.extract 0 (tAg : Int).toNat).size + tAm.size ≤ 9223372036854775807 then (if ((tAa.extract 0 (tAg : Int).toNat) ++ tAm).size + (tAa.extract (tAg : Int).toNat tAa.size).size ≤ 9223372036854775807 then ((plaitingref2_Wrap.f k tAt).bind fun tAz => ((plaitinglaw5_within.f a4 (tAt.size : Int)).bind fun tBf => ((plaitingref1_Turn.f k tAt tBf).bind fun tBc => ((plaitingref2_Wrap.f k tBc).bind fun tAw => ((plaitinglaw5_within.f a4 (wrap64 (((tAa.extract 0 ((ji18) : Int).toNat).size : Int) + 1))).bind fun tAj => (if 0 ≤ tAj then (if tAj ≤ ((tAa.extract 0 ((ji18) : Int).toNat).size : Int) then ((plaitingref2_Wrap.f k ((tAa.extract 0 ((ji18) : Int).toNat).extract 0 (tAj : Int).toNat)).bind fun tAv => ((plaitinglaw5_within.f a3 20).bind fun tAy => ((plaitingref1_Bits.f k a4 (wrap64 (1 + tAy))).bind fun tAn => (if (tAa.extract 0 ((ji18) : Int).toNat).size + tAn.size ≤ 9223372036854775807 then ((plaitingref2_Wrap.f k ((tAa.extract 0 ((ji18) : Int).toNat) ++ tAn)).bind fun tAu => (plaitinglaw5_FrameReads.l0 k (([tBa, tAa.extract 0 (tAg : Int).toNat, ((tAa.extract 0 (tAg : Int).toNat) ++ tAm) ++ (tAa.extract (tAg : Int).toNat tAa.size), a6, tAz, tAw, tAv, tAu] : List ByteArray)) 0 tAh tAp tAq tAr tAs tAk)) else (none))))) else (none)) else (none))))))) else (none)) else (none))) else (none)) else (none)))))) else (none)) else (none)) = some r := by first | (rw [hji18] at H; exact H) | (simp only [hji18] at H ⊢; exact H)
 (try rw [hji18] at A8)
 (try rw [hji18] at A14)
 (try rw [hji18] at A15)
 (try rw [hji18] at A16)
 (try rw [hji18] at A17)
 have hji18w : (IntKind.i64.wrap ((tAa.size : Int) - 17)) = ji18 := (i64_w _).trans hji18
 by_cases c19 : 0 ≤ (ji18)
 rotate_left
 ·
  rw [if_neg c19] at H
  exact absurd H (by simp)
 rw [if_pos c19] at H
 have c19b0 := eq_true c19
 have c19b1 : decide (0 ≤ (ji18)) = true := decide_eq_true c19
 clear c19
 by_cases c20 : (ji18) ≤ (tAa.size : Int)
 rotate_left
 ·
  rw [if_neg c20] at H
  exact absurd H (by simp)
 rw [if_pos c20] at H
 have c20b0 := eq_true c20
 have c20b1 : decide ((ji18) ≤ (tAa.size : Int)) = true := decide_eq_true c20
 clear c20
 replace H := Option.bind_eq_some_iff.mp H
 obtain ⟨tBq, A210, H⟩ := H
 replace H : ((plaitingref1_Turn.f k (tAa.extract 0 ((ji18) : Int).toNat) tBq).bind fun tAt => ((plaitinglaw5_within.f a3 (tAa.size : Int)).bind fun tBm => ((plaitingref1_Turn.f k tAa tBm).bind fun tBa => (if 0 ≤ tAg then (if tAg ≤ (tAa.size : Int) then ((plaitinglaw1_Text.f k l5).bind fun tAm => (if (tAa.extract 0 (tAg : Int).toNat).size + tAm.size ≤ 9223372036854775807 then (if ((tAa.extract 0 (tAg : Int).toNat) ++ tAm).size + (tAa.extract (tAg : Int).toNat tAa.size).size ≤ 9223372036854775807 then ((plaitingref2_Wrap.f k tAt).bind fun tAz => ((plaitinglaw5_within.f a4 (tAt.size : Int)).bind fun tBf => ((plaitingref1_Turn.f k tAt tBf).bind fun tBc => ((plaitingref2_Wrap.f k tBc).bind fun tAw => ((plaitinglaw5_within.f a4 (wrap64 (((tAa.extract 0 ((ji18) : Int).toNat).size : Int) + 1))).bind fun tAj => (if 0 ≤ tAj then (if tAj ≤ ((tAa.extract 0 ((ji18) : Int).toNat).size : Int) then ((plaitingref2_Wrap.f k ((tAa.extract 0 ((ji18) : Int).toNat).extract 0 (tAj : Int).toNat)).bind fun tAv => ((plaitinglaw5_within.f a3 20).bind fun tAy => ((plaitingref1_Bits.f k a4 (wrap64 (1 + tAy))).bind fun tAn => (if (tAa.extract 0 ((ji18) : Int).toNat).size + tAn.size ≤ 9223372036854775807 then ((plaitingref2_Wrap.f k ((tAa.extract 0 ((ji18) : Int).toNat) ++ tAn)).bind fun tAu => (plaitinglaw5_FrameReads.l0 k (([tBa, tAa.extract 0 (tAg : Int).toNat, ((tAa.extract 0 (tAg : Int).toNat) ++ tAm) ++ (tAa.extract (tAg : Int).toNat tAa.size), a6, tAz, tAw, tAv, tAu] : List ByteArray)) 0 tAh tAp tAq tAr tAs tAk)) else (none))))) else (none)) else (none))))))) else (none)) else (none))) else (none)) else (none))))) = some r := H
 have A21 := Aside0.mk A210
 clear A210
 replace H := Option.bind_eq_some_iff.mp H
 obtain ⟨tAt, A220, H⟩ := H
 replace H : ((plaitinglaw5_within.f a3 (tAa.size : Int)).bind fun tBm => ((plaitingref1_Turn.f k tAa tBm).bind fun tBa => (if 0 ≤ tAg then (if tAg ≤ (tAa.size : Int) then ((plaitinglaw1_Text.f k l5).bind fun tAm => (if (tAa.extract 0 (tAg : Int).toNat).size + tAm.size ≤ 9223372036854775807 then (if ((tAa.extract 0 (tAg : Int).toNat) ++ tAm).size + (tAa.extract (tAg : Int).toNat tAa.size).size ≤ 9223372036854775807 then ((plaitingref2_Wrap.f k tAt).bind fun tAz => ((plaitinglaw5_within.f a4 (tAt.size : Int)).bind fun tBf => ((plaitingref1_Turn.f k tAt tBf).bind fun tBc => ((plaitingref2_Wrap.f k tBc).bind fun tAw => ((plaitinglaw5_within.f a4 (wrap64 (((tAa.extract 0 ((ji18) : Int).toNat).size : Int) + 1))).bind fun tAj => (if 0 ≤ tAj then (if tAj ≤ ((tAa.extract 0 ((ji18) : Int).toNat).size : Int) then ((plaitingref2_Wrap.f k ((tAa.extract 0 ((ji18) : Int).toNat).extract 0 (tAj : Int).toNat)).bind fun tAv => ((plaitinglaw5_within.f a3 20).bind fun tAy => ((plaitingref1_Bits.f k a4 (wrap64 (1 + tAy))).bind fun tAn => (if (tAa.extract 0 ((ji18) : Int).toNat).size + tAn.size ≤ 9223372036854775807 then ((plaitingref2_Wrap.f k ((tAa.extract 0 ((ji18) : Int).toNat) ++ tAn)).bind fun tAu => (plaitinglaw5_FrameReads.l0 k (([tBa, tAa.extract 0 (tAg : Int).toNat, ((tAa.extract 0 (tAg : Int).toNat) ++ tAm) ++ (tAa.extract (tAg : Int).toNat tAa.size), a6, tAz, tAw, tAv, tAu] : List ByteArray)) 0 tAh tAp tAq tAr tAs tAk)) else (none))))) else (none)) else (none))))))) else (none)) else (none))) else (none)) else (none)))) = some r := H
 have A22 := Aside0.mk A220
 clear A220
 replace H := Option.bind_eq_some_iff.mp H
 obtain ⟨tBm, A230, H⟩ := H
 replace H : ((plaitingref1_Turn.f k tAa tBm).bind fun tBa => (if 0 ≤ tAg then (if tAg ≤ (tAa.size : Int) then ((plaitinglaw1_Text.f k l5).bind fun tAm => (if (tAa.extract 0 (tAg : Int).toNat).size + tAm.size ≤ 9223372036854775807 then (if ((tAa.extract 0 (tAg : Int).toNat) ++ tAm).size + (tAa.extract (tAg : Int).toNat tAa.size).size ≤ 9223372036854775807 then ((plaitingref2_Wrap.f k tAt).bind fun tAz => ((plaitinglaw5_within.f a4 (tAt.size : Int)).bind fun tBf => ((plaitingref1_Turn.f k tAt tBf).bind fun tBc => ((plaitingref2_Wrap.f k tBc).bind fun tAw => ((plaitinglaw5_within.f a4 (wrap64 (((tAa.extract 0 ((ji18) : Int).toNat).size : Int) + 1))).bind fun tAj => (if 0 ≤ tAj then (if tAj ≤ ((tAa.extract 0 ((ji18) : Int).toNat).size : Int) then ((plaitingref2_Wrap.f k ((tAa.extract 0 ((ji18) : Int).toNat).extract 0 (tAj : Int).toNat)).bind fun tAv => ((plaitinglaw5_within.f a3 20).bind fun tAy => ((plaitingref1_Bits.f k a4 (wrap64 (1 + tAy))).bind fun tAn => (if (tAa.extract 0 ((ji18) : Int).toNat).size + tAn.size ≤ 9223372036854775807 then ((plaitingref2_Wrap.f k ((tAa.extract 0 ((ji18) : Int).toNat) ++ tAn)).bind fun tAu => (plaitinglaw5_FrameReads.l0 k (([tBa, tAa.extract 0 (tAg : Int).toNat, ((tAa.extract 0 (tAg : Int).toNat) ++ tAm) ++ (tAa.extract (tAg : Int).toNat tAa.size), a6, tAz, tAw, tAv, tAu] : List ByteArray)) 0 tAh tAp tAq tAr tAs tAk)) else (none))))) else (none)) else (none))))))) else (none)) else (none))) else (none)) else (none))) = some r := H
 have A23 := Aside0.mk A230
 clear A230
 replace H := Option.bind_eq_some_iff.mp H
 obtain ⟨tBa, A240, H⟩ := H
 replace H : (if 0 ≤ tAg then (if tAg ≤ (tAa.size : Int) then ((plaitinglaw1_Text.f k l5).bind fun tAm => (if (tAa.extract 0 (tAg : Int).toNat).size + tAm.size ≤ 9223372036854775807 then (if ((tAa.extract 0 (tAg : Int).toNat) ++ tAm).size + (tAa.extract (tAg : Int).toNat tAa.size).size ≤ 9223372036854775807 then ((plaitingref2_Wrap.f k tAt).bind fun tAz => ((plaitinglaw5_within.f a4 (tAt.size : Int)).bind fun tBf => ((plaitingref1_Turn.f k tAt tBf).bind fun tBc => ((plaitingref2_Wrap.f k tBc).bind fun tAw => ((plaitinglaw5_within.f a4 (wrap64 (((tAa.extract 0 ((ji18) : Int).toNat).size : Int) + 1))).bind fun tAj => (if 0 ≤ tAj then (if tAj ≤ ((tAa.extract 0 ((ji18) : Int).toNat).size : Int) then ((plaitingref2_Wrap.f k ((tAa.extract 0 ((ji18) : Int).toNat).extract 0 (tAj : Int).toNat)).bind fun tAv => ((plaitinglaw5_within.f a3 20).bind fun tAy => ((plaitingref1_Bits.f k a4 (wrap64 (1 + tAy))).bind fun tAn => (if (tAa.extract 0 ((ji18) : Int).toNat).size + tAn.size ≤ 9223372036854775807 then ((plaitingref2_Wrap.f k ((tAa.extract 0 ((ji18) : Int).toNat) ++ tAn)).bind fun tAu => (plaitinglaw5_FrameReads.l0 k (([tBa, tAa.extract 0 (tAg : Int).toNat, ((tAa.extract 0 (tAg : Int).toNat) ++ tAm) ++ (tAa.extract (tAg : Int).toNat tAa.size), a6, tAz, tAw, tAv, tAu] : List ByteArray)) 0 tAh tAp tAq tAr tAs tAk)) else (none))))) else (none)) else (none))))))) else (none)) else (none))) else (none)) else (none)) = some r := H
 have A24 := Aside0.mk A240
 clear A240
 by_cases c25 : 0 ≤ tAg
 rotate_left
 ·
  rw [if_neg c25] at H
  exact absurd H (by simp)
 rw [if_pos c25] at H
 have c25b0 := eq_true c25
 have c25b1 : decide (0 ≤ tAg) = true := decide_eq_true c25
 clear c25
 by_cases c26 : tAg ≤ (tAa.size : Int)
 rotate_left
 ·
  rw [if_neg c26] at H
  exact absurd H (by simp)
 rw [if_pos c26] at H
 have c26b0 := eq_true c26
 have c26b1 : decide (tAg ≤ (tAa.size : Int)) = true := decide_eq_true c26
 clear c26
 have c27b0 := eq_true (of_decide_eq_true (by first | (with_reducible assumption) | assumption) : 0 ≤ tAg)
 have c28b0 := eq_true (of_decide_eq_true (by first | (with_reducible assumption) | assumption) : tAg ≤ (tAa.size : Int))
 replace H := Option.bind_eq_some_iff.mp H
 obtain ⟨tAm, A290, H⟩ := H
 replace H : (if (tAa.extract 0 (tAg : Int).toNat).size + tAm.size ≤ 9223372036854775807 then (if ((tAa.extract 0 (tAg : Int).toNat) ++ tAm).size + (tAa.extract (tAg : Int).toNat tAa.size).size ≤ 9223372036854775807 then ((plaitingref2_Wrap.f k tAt).bind fun tAz => ((plaitinglaw5_within.f a4 (tAt.size : Int)).bind fun tBf => ((plaitingref1_Turn.f k tAt tBf).bind fun tBc => ((plaitingref2_Wrap.f k tBc).bind fun tAw => ((plaitinglaw5_within.f a4 (wrap64 (((tAa.extract 0 ((ji18) : Int).toNat).size : Int) + 1))).bind fun tAj => (if 0 ≤ tAj then (if tAj ≤ ((tAa.extract 0 ((ji18) : Int).toNat).size : Int) then ((plaitingref2_Wrap.f k ((tAa.extract 0 ((ji18) : Int).toNat).extract 0 (tAj : Int).toNat)).bind fun tAv => ((plaitinglaw5_within.f a3 20).bind fun tAy => ((plaitingref1_Bits.f k a4 (wrap64 (1 + tAy))).bind fun tAn => (if (tAa.extract 0 ((ji18) : Int).toNat).size + tAn.size ≤ 9223372036854775807 then ((plaitingref2_Wrap.f k ((tAa.extract 0 ((ji18) : Int).toNat) ++ tAn)).bind fun tAu => (plaitinglaw5_FrameReads.l0 k (([tBa, tAa.extract 0 (tAg : Int).toNat, ((tAa.extract 0 (tAg : Int).toNat) ++ tAm) ++ (tAa.extract (tAg : Int).toNat tAa.size), a6, tAz, tAw, tAv, tAu] : List ByteArray)) 0 tAh tAp tAq tAr tAs tAk)) else (none))))) else (none)) else (none))))))) else (none)) else (none)) = some r := H
 have A29 := Aside0.mk A290
 clear A290
 by_cases c30 : (tAa.extract 0 (tAg : Int).toNat).size + tAm.size ≤ 9223372036854775807
 rotate_left
 ·
  rw [if_neg c30] at H
  exact absurd H (by simp)
 rw [if_pos c30] at H
 have c30b0 := eq_true c30
 have c30b1 : decide ((tAa.extract 0 (tAg : Int).toNat).size + tAm.size ≤ 9223372036854775807) = true := decide_eq_true c30
 try have c30b2 : (9223372036854775807 < (tAa.extract 0 (tAg : Int).toNat).size + tAm.size) = False := eq_false (Nat.not_lt.2 c30)
 have c31b0 := eq_true (of_decide_eq_true (by first | (with_reducible assumption) | assumption) : 0 ≤ tAg)
 have c32b0 := eq_true (of_decide_eq_true (by first | (with_reducible assumption) | assumption) : tAg ≤ (tAa.size : Int))
 by_cases c33 : ((tAa.extract 0 (tAg : Int).toNat) ++ tAm).size + (tAa.extract (tAg : Int).toNat tAa.size).size ≤ 9223372036854775807
 rotate_left
 ·
  rw [if_neg c33] at H
  exact absurd H (by simp)
 rw [if_pos c33] at H
 have c33b0 := eq_true c33
 have c33b1 : decide (((tAa.extract 0 (tAg : Int).toNat) ++ tAm).size + (tAa.extract (tAg : Int).toNat tAa.size).size ≤ 9223372036854775807) = true := decide_eq_true c33
 try have c33b2 : (9223372036854775807 < ((tAa.extract 0 (tAg : Int).toNat) ++ tAm).size + (tAa.extract (tAg : Int).toNat tAa.size).size) = False := eq_false (Nat.not_lt.2 c33)
 replace H := Option.bind_eq_some_iff.mp H
 obtain ⟨tAz, A340, H⟩ := H
 replace H : ((plaitinglaw5_within.f a4 (tAt.size : Int)).bind fun tBf => ((plaitingref1_Turn.f k tAt tBf).bind fun tBc => ((plaitingref2_Wrap.f k tBc).bind fun tAw => ((plaitinglaw5_within.f a4 (wrap64 (((tAa.extract 0 ((ji18) : Int).toNat).size : Int) + 1))).bind fun tAj => (if 0 ≤ tAj then (if tAj ≤ ((tAa.extract 0 ((ji18) : Int).toNat).size : Int) then ((plaitingref2_Wrap.f k ((tAa.extract 0 ((ji18) : Int).toNat).extract 0 (tAj : Int).toNat)).bind fun tAv => ((plaitinglaw5_within.f a3 20).bind fun tAy => ((plaitingref1_Bits.f k a4 (wrap64 (1 + tAy))).bind fun tAn => (if (tAa.extract 0 ((ji18) : Int).toNat).size + tAn.size ≤ 9223372036854775807 then ((plaitingref2_Wrap.f k ((tAa.extract 0 ((ji18) : Int).toNat) ++ tAn)).bind fun tAu => (plaitinglaw5_FrameReads.l0 k (([tBa, tAa.extract 0 (tAg : Int).toNat, ((tAa.extract 0 (tAg : Int).toNat) ++ tAm) ++ (tAa.extract (tAg : Int).toNat tAa.size), a6, tAz, tAw, tAv, tAu] : List ByteArray)) 0 tAh tAp tAq tAr tAs tAk)) else (none))))) else (none)) else (none)))))) = some r := H
 have A34 := Aside0.mk A340
 clear A340
 replace H := Option.bind_eq_some_iff.mp H
 obtain ⟨tBf, A350, H⟩ := H
 replace H : ((plaitingref1_Turn.f k tAt tBf).bind fun tBc => ((plaitingref2_Wrap.f k tBc).bind fun tAw => ((plaitinglaw5_within.f a4 (wrap64 (((tAa.extract 0 ((ji18) : Int).toNat).size : Int) + 1))).bind fun tAj => (if 0 ≤ tAj then (if tAj ≤ ((tAa.extract 0 ((ji18) : Int).toNat).size : Int) then ((plaitingref2_Wrap.f k ((tAa.extract 0 ((ji18) : Int).toNat).extract 0 (tAj : Int).toNat)).bind fun tAv => ((plaitinglaw5_within.f a3 20).bind fun tAy => ((plaitingref1_Bits.f k a4 (wrap64 (1 + tAy))).bind fun tAn => (if (tAa.extract 0 ((ji18) : Int).toNat).size + tAn.size ≤ 9223372036854775807 then ((plaitingref2_Wrap.f k ((tAa.extract 0 ((ji18) : Int).toNat) ++ tAn)).bind fun tAu => (plaitinglaw5_FrameReads.l0 k (([tBa, tAa.extract 0 (tAg : Int).toNat, ((tAa.extract 0 (tAg : Int).toNat) ++ tAm) ++ (tAa.extract (tAg : Int).toNat tAa.size), a6, tAz, tAw, tAv, tAu] : List ByteArray)) 0 tAh tAp tAq tAr tAs tAk)) else (none))))) else (none)) else (none))))) = some r := H
 have A35 := Aside0.mk A350
 clear A350
 replace H := Option.bind_eq_some_iff.mp H
 obtain ⟨tBc, A360, H⟩ := H
 replace H : ((plaitingref2_Wrap.f k tBc).bind fun tAw => ((plaitinglaw5_within.f a4 (wrap64 (((tAa.extract 0 ((ji18) : Int).toNat).size : Int) + 1))).bind fun tAj => (if 0 ≤ tAj then (if tAj ≤ ((tAa.extract 0 ((ji18) : Int).toNat).size : Int) then ((plaitingref2_Wrap.f k ((tAa.extract 0 ((ji18) : Int).toNat).extract 0 (tAj : Int).toNat)).bind fun tAv => ((plaitinglaw5_within.f a3 20).bind fun tAy => ((plaitingref1_Bits.f k a4 (wrap64 (1 + tAy))).bind fun tAn => (if (tAa.extract 0 ((ji18) : Int).toNat).size + tAn.size ≤ 9223372036854775807 then ((plaitingref2_Wrap.f k ((tAa.extract 0 ((ji18) : Int).toNat) ++ tAn)).bind fun tAu => (plaitinglaw5_FrameReads.l0 k (([tBa, tAa.extract 0 (tAg : Int).toNat, ((tAa.extract 0 (tAg : Int).toNat) ++ tAm) ++ (tAa.extract (tAg : Int).toNat tAa.size), a6, tAz, tAw, tAv, tAu] : List ByteArray)) 0 tAh tAp tAq tAr tAs tAk)) else (none))))) else (none)) else (none)))) = some r := H
 have A36 := Aside0.mk A360
 clear A360
 replace H := Option.bind_eq_some_iff.mp H
 obtain ⟨tAw, A370, H⟩ := H
 replace H : ((plaitinglaw5_within.f a4 (wrap64 (((tAa.extract 0 ((ji18) : Int).toNat).size : Int) + 1))).bind fun tAj => (if 0 ≤ tAj then (if tAj ≤ ((tAa.extract 0 ((ji18) : Int).toNat).size : Int) then ((plaitingref2_Wrap.f k ((tAa.extract 0 ((ji18) : Int).toNat).extract 0 (tAj : Int).toNat)).bind fun tAv => ((plaitinglaw5_within.f a3 20).bind fun tAy => ((plaitingref1_Bits.f k a4 (wrap64 (1 + tAy))).bind fun tAn => (if (tAa.extract 0 ((ji18) : Int).toNat).size + tAn.size ≤ 9223372036854775807 then ((plaitingref2_Wrap.f k ((tAa.extract 0 ((ji18) : Int).toNat) ++ tAn)).bind fun tAu => (plaitinglaw5_FrameReads.l0 k (([tBa, tAa.extract 0 (tAg : Int).toNat, ((tAa.extract 0 (tAg : Int).toNat) ++ tAm) ++ (tAa.extract (tAg : Int).toNat tAa.size), a6, tAz, tAw, tAv, tAu] : List ByteArray)) 0 tAh tAp tAq tAr tAs tAk)) else (none))))) else (none)) else (none))) = some r := H
 have A37 := Aside0.mk A370
 clear A370
 replace H := Option.bind_eq_some_iff.mp H
 obtain ⟨tAj, A380, H⟩ := H
 replace H : (if 0 ≤ tAj then (if tAj ≤ ((tAa.extract 0 ((ji18) : Int).toNat).size : Int) then ((plaitingref2_Wrap.f k ((tAa.extract 0 ((ji18) : Int).toNat).extract 0 (tAj : Int).toNat)).bind fun tAv => ((plaitinglaw5_within.f a3 20).bind fun tAy => ((plaitingref1_Bits.f k a4 (wrap64 (1 + tAy))).bind fun tAn => (if (tAa.extract 0 ((ji18) : Int).toNat).size + tAn.size ≤ 9223372036854775807 then ((plaitingref2_Wrap.f k ((tAa.extract 0 ((ji18) : Int).toNat) ++ tAn)).bind fun tAu => (plaitinglaw5_FrameReads.l0 k (([tBa, tAa.extract 0 (tAg : Int).toNat, ((tAa.extract 0 (tAg : Int).toNat) ++ tAm) ++ (tAa.extract (tAg : Int).toNat tAa.size), a6, tAz, tAw, tAv, tAu] : List ByteArray)) 0 tAh tAp tAq tAr tAs tAk)) else (none))))) else (none)) else (none)) = some r := H
 have A38 := Aside0.mk A380
 clear A380
 by_cases c39 : 0 ≤ tAj
 rotate_left
 ·
  rw [if_neg c39] at H
  exact absurd H (by simp)
 rw [if_pos c39] at H
 have c39b0 := eq_true c39
 have c39b1 : decide (0 ≤ tAj) = true := decide_eq_true c39
 clear c39
 by_cases c40 : tAj ≤ ((tAa.extract 0 ((ji18) : Int).toNat).size : Int)
 rotate_left
 ·
  rw [if_neg c40] at H
  exact absurd H (by simp)
 rw [if_pos c40] at H
 have c40b0 := eq_true c40
 have c40b1 : decide (tAj ≤ ((tAa.extract 0 ((ji18) : Int).toNat).size : Int)) = true := decide_eq_true c40
 clear c40
 replace H := Option.bind_eq_some_iff.mp H
 obtain ⟨tAv, A410, H⟩ := H
 replace H : ((plaitinglaw5_within.f a3 20).bind fun tAy => ((plaitingref1_Bits.f k a4 (wrap64 (1 + tAy))).bind fun tAn => (if (tAa.extract 0 ((ji18) : Int).toNat).size + tAn.size ≤ 9223372036854775807 then ((plaitingref2_Wrap.f k ((tAa.extract 0 ((ji18) : Int).toNat) ++ tAn)).bind fun tAu => (plaitinglaw5_FrameReads.l0 k (([tBa, tAa.extract 0 (tAg : Int).toNat, ((tAa.extract 0 (tAg : Int).toNat) ++ tAm) ++ (tAa.extract (tAg : Int).toNat tAa.size), a6, tAz, tAw, tAv, tAu] : List ByteArray)) 0 tAh tAp tAq tAr tAs tAk)) else (none)))) = some r := H
 have A41 := Aside0.mk A410
 clear A410
 replace H := Option.bind_eq_some_iff.mp H
 obtain ⟨tAy, A420, H⟩ := H
 replace H : ((plaitingref1_Bits.f k a4 (wrap64 (1 + tAy))).bind fun tAn => (if (tAa.extract 0 ((ji18) : Int).toNat).size + tAn.size ≤ 9223372036854775807 then ((plaitingref2_Wrap.f k ((tAa.extract 0 ((ji18) : Int).toNat) ++ tAn)).bind fun tAu => (plaitinglaw5_FrameReads.l0 k (([tBa, tAa.extract 0 (tAg : Int).toNat, ((tAa.extract 0 (tAg : Int).toNat) ++ tAm) ++ (tAa.extract (tAg : Int).toNat tAa.size), a6, tAz, tAw, tAv, tAu] : List ByteArray)) 0 tAh tAp tAq tAr tAs tAk)) else (none))) = some r := H
 have A42 := Aside0.mk A420
 clear A420
 replace H := Option.bind_eq_some_iff.mp H
 obtain ⟨tAn, A430, H⟩ := H
 replace H : (if (tAa.extract 0 ((ji18) : Int).toNat).size + tAn.size ≤ 9223372036854775807 then ((plaitingref2_Wrap.f k ((tAa.extract 0 ((ji18) : Int).toNat) ++ tAn)).bind fun tAu => (plaitinglaw5_FrameReads.l0 k (([tBa, tAa.extract 0 (tAg : Int).toNat, ((tAa.extract 0 (tAg : Int).toNat) ++ tAm) ++ (tAa.extract (tAg : Int).toNat tAa.size), a6, tAz, tAw, tAv, tAu] : List ByteArray)) 0 tAh tAp tAq tAr tAs tAk)) else (none)) = some r := H
 have A43 := Aside0.mk A430
 clear A430
 by_cases c44 : (tAa.extract 0 ((ji18) : Int).toNat).size + tAn.size ≤ 9223372036854775807
 rotate_left
 ·
  rw [if_neg c44] at H
  exact absurd H (by simp)
 rw [if_pos c44] at H
 have c44b0 := eq_true c44
 have c44b1 : decide ((tAa.extract 0 ((ji18) : Int).toNat).size + tAn.size ≤ 9223372036854775807) = true := decide_eq_true c44
 try have c44b2 : (9223372036854775807 < (tAa.extract 0 ((ji18) : Int).toNat).size + tAn.size) = False := eq_false (Nat.not_lt.2 c44)
 replace H := Option.bind_eq_some_iff.mp H
 obtain ⟨tAu, A450, H⟩ := H
 replace H : (plaitinglaw5_FrameReads.l0 k (([tBa, tAa.extract 0 (tAg : Int).toNat, ((tAa.extract 0 (tAg : Int).toNat) ++ tAm) ++ (tAa.extract (tAg : Int).toNat tAa.size), a6, tAz, tAw, tAv, tAu] : List ByteArray)) 0 tAh tAp tAq tAr tAs tAk) = some r := H
 have A45 := Aside0.mk A450
 clear A450
 obtain ⟨yAx, hyAx⟩ : ∃ y_ : List ByteArray, y_ = (([tBa, tAa.extract 0 (tAg : Int).toNat, ((tAa.extract 0 (tAg : Int).toNat) ++ tAm) ++ (tAa.extract (tAg : Int).toNat tAa.size), a6, tAz, tAw, tAv, tAu] : List ByteArray)) := ⟨_, rfl⟩
 replace H : (plaitinglaw5_FrameReads.l0 k yAx 0 tAh tAp tAq tAr tAs tAk) = some r := by first | (rw [hyAx]; with_reducible exact H) | (have H2_ := (Option.bind_some _ _).symm.trans H; rw [hyAx]; with_reducible exact H2_) | (have H2_ := (Option.bind_some _ _).symm.trans H; with_reducible exact H2_) | with_reducible exact H | (rw [hyAx]; exact H) | exact H
 have NyAx := Aside0.mk hyAx
 clear hyAx
 have H' := Aside0.mk H
 clear H
 go_enter Try.func7, Try.ntmps7
 try go_wp2_with (first | ((with_reducible refine gate_dst (N := 7) rfl ?_); refine box_event ?hg (N := 7) ?hd (cs := #[.int .i64 a0_0, .int .i64 a0_1, .int .i64 a0_2, .int .i64 a0_3, .int .i64 a0_4, .slice A0_5 l0_5.length c0_5]) (t := 24) ?hr ?_; (case hd => rfl); (case hg => rfl); (case hr => first | (go_simp; done) | (go_simp; rfl)); intro gbAe hg w46 hbox hb; have BKAe := Aside0.mk (hbox); have GWAe := Aside0.mk ((by rw [hg]; exact (below_size (pH_ HB.out)) : w.heap.size ≤ gbAe)); have GEAe := Aside0.mk ((by rw [hg]; exact (below_size (pH_ HB.out)) : w.heap.size ≤ gbAe)); replace HB := Aside0.mk (below_step (pH_ HB.out) hb); clear hb hbox hg) | ((with_reducible refine gate_dst (N := 8) rfl ?_); refine box_event ?hg (N := 8) ?hd (cs := #[.int .i64 a1_0, .int .i64 a1_1, .int .i64 a1_2, .int .i64 a1_3, .int .i64 a1_4, .slice A1_5 l1_5.length c1_5]) (t := 29) ?hr ?_; (case hd => rfl); (case hg => rfl); (case hr => first | (go_simp; done) | (go_simp; rfl)); intro gbAf hg w47 hbox hb; have BKAf := Aside0.mk (hbox); have GWAf := Aside0.mk ((by rw [hg]; exact (below_size (pH_ HB.out)) : w.heap.size ≤ gbAf)); have GEAf := Aside0.mk ((by rw [hg]; exact (below_size (pH_ HB.out)) : w.heap.size ≤ gbAf)); have NBAe_Af := Aside0.mk (ltB_ hg BKAe.out); have NBAf_Ae := Aside0.mk (ltB_ hg BKAe.out).symm; replace BKAe := Aside0.mk (blk_below (pB_ BKAe.out) hb); replace HB := Aside0.mk (below_step (pH_ HB.out) hb); clear hb hbox hg) | ((with_reducible refine gate_callee (f := 18) rfl ?_); refine goesL_ (some 26) rfl rfl Try.func18 (by kernel_rfl) rfl #[] rfl (by (try simp only [List.map_toArray, List.map_cons, List.map_nil]); first | done | rfl | (simp only [List.length_drop, List.length_take]; rfl)) ?_; (with_reducible refine (plaitinglaw5_known.calls  true _ A8.out).mono ?_); rintro e w48 ⟨rfl, hb⟩; refine ⟨_, rfl, ?_⟩; replace BKAe := Aside0.mk (blk_below (pB_ BKAe.out) hb); replace BKAf := Aside0.mk (blk_below (pB_ BKAf.out) hb); replace HB := Aside0.mk (below_step (pH_ HB.out) hb); (try clear hb); (try clear hb2); (try clear hk); (try clear hi); have hnb49 := NBAe_Af.out; have hnc49 := NBAf_Ae.out; have hcz50_0 : w48.cell? ⟨gbAe, 0, none⟩ = some (.int .i64 a0_0) := (blk_cell BKAe.out 0).trans rfl; have hcz50_1 : w48.cell? ⟨gbAe, 1, none⟩ = some (.int .i64 a0_1) := (blk_cell BKAe.out 1).trans rfl; have hcz50_2 : w48.cell? ⟨gbAe, 2, none⟩ = some (.int .i64 a0_2) := (blk_cell BKAe.out 2).trans rfl; have hcz50_3 : w48.cell? ⟨gbAe, 3, none⟩ = some (.int .i64 a0_3) := (blk_cell BKAe.out 3).trans rfl; have hcz50_4 : w48.cell? ⟨gbAe, 4, none⟩ = some (.int .i64 a0_4) := (blk_cell BKAe.out 4).trans rfl; have hcz50_5 : w48.cell? ⟨gbAe, 5, none⟩ = some (.slice A0_5 l0_5.length c0_5) := (blk_cell BKAe.out 5).trans rfl; have hfz50_0 := blk_frozen BKAe.out 0; have hfz50_1 := blk_frozen BKAe.out 1; have hfz50_2 := blk_frozen BKAe.out 2; have hfz50_3 := blk_frozen BKAe.out 3; have hfz50_4 := blk_frozen BKAe.out 4; have hfz50_5 := blk_frozen BKAe.out 5) | ((with_reducible refine gate_callee (f := 20) rfl ?_); refine goesL_ (some 32) rfl rfl Try.func20 (by kernel_rfl) rfl #[.agg #[.int .i64 a0_0, .int .i64 a0_1, .int .i64 a0_2, .int .i64 a0_3, .int .i64 a0_4, .slice A0_5 l0_5.length c0_5]] rfl (by (try simp only [List.map_toArray, List.map_cons, List.map_nil]); first | done | rfl | (simp only [List.length_drop, List.length_take]; rfl)) ?_; (with_reducible refine (plaitinglaw3_Make.calls k a0_0 a0_1 a0_2 a0_3 a0_4 _ _ l0_5 tAh tAp tAq tAr tAs tAk _ ?side1 ?side2 A14.out).mono ?_); (case side1 => repeat (first | exact (Kd.C_below HR0_5.out HB.out) | (with_reducible refine Kd.C_alloc ?_ _) | (with_reducible refine Kd.C_drewN ?_ _) | (with_reducible refine Kd.C_drew ?_))); (case side2 => exact HC0_5.out); rintro e w51 ⟨vCn, rfl, ho0, hb⟩; refine ⟨_, rfl, ?_⟩; have HOBi := Aside0.mk (Kd.R_lower ho0 (below_size (pH_ HB.out))); replace BKAe := Aside0.mk (blk_below (pB_ BKAe.out) hb); replace BKAf := Aside0.mk (blk_below (pB_ BKAf.out) hb); replace HB := Aside0.mk (below_step (pH_ HB.out) hb); (try clear hb); (try clear hb2); (try clear hk); (try clear hi); (try clear ho0)) | ((with_reducible refine gate_dst (N := 15) rfl ?_); refine box_event ?hg (N := 15) ?hd (cs := #[.int .i64 0, .int .i64 0, .int .i64 0, .int .i64 0, .int .i64 0, .slice none 0 0]) (t := 24) ?hr ?_; (case hd => rfl); (case hg => rfl); (case hr => first | (go_simp; done) | (go_simp; rfl)); intro gbAb hg w52 hbox hb; have BKAb := Aside0.mk (hbox); have GWAb := Aside0.mk ((by rw [hg]; exact (below_size (pH_ HB.out)) : w.heap.size ≤ gbAb)); have GEAb := Aside0.mk ((by rw [hg]; exact (below_size (pH_ HB.out)) : w.heap.size ≤ gbAb)); have NBAe_Ab := Aside0.mk (ltB_ hg BKAe.out); have NBAb_Ae := Aside0.mk (ltB_ hg BKAe.out).symm; have NBAf_Ab := Aside0.mk (ltB_ hg BKAf.out); have NBAb_Af := Aside0.mk (ltB_ hg BKAf.out).symm; replace HOBi := Aside0.mk (Kd.R_below (pR_ HOBi.out) hb); replace BKAe := Aside0.mk (blk_below (pB_ BKAe.out) hb); replace BKAf := Aside0.mk (blk_below (pB_ BKAf.out) hb); replace HB := Aside0.mk (below_step (pH_ HB.out) hb); clear hb hbox hg; have hnb53 := NBAb_Ae.out; have hnc53 := NBAe_Ab.out; have hnb54 := NBAb_Af.out; have hnc54 := NBAf_Ab.out; have hcz55_0 : w52.cell? ⟨gbAb, 0, none⟩ = some (.int .i64 0) := (blk_cell BKAb.out 0).trans rfl; have hcz55_1 : w52.cell? ⟨gbAb, 1, none⟩ = some (.int .i64 0) := (blk_cell BKAb.out 1).trans rfl; have hcz55_2 : w52.cell? ⟨gbAb, 2, none⟩ = some (.int .i64 0) := (blk_cell BKAb.out 2).trans rfl; have hcz55_3 : w52.cell? ⟨gbAb, 3, none⟩ = some (.int .i64 0) := (blk_cell BKAb.out 3).trans rfl; have hcz55_4 : w52.cell? ⟨gbAb, 4, none⟩ = some (.int .i64 0) := (blk_cell BKAb.out 4).trans rfl; have hcz55_5 : w52.cell? ⟨gbAb, 5, none⟩ = some (.slice none 0 0) := (blk_cell BKAb.out 5).trans rfl; have hfz55_0 := blk_frozen BKAb.out 0; have hfz55_1 := blk_frozen BKAb.out 1; have hfz55_2 := blk_frozen BKAb.out 2; have hfz55_3 := blk_frozen BKAb.out 3; have hfz55_4 := blk_frozen BKAb.out 4; have hfz55_5 := blk_frozen BKAb.out 5; obtain ⟨Ao56, co56, eo56⟩ := Kd.R_slice HOBi.out; subst eo56))
 have n0_ : Aside0 (Kd.R (Kd.int .i64) 3 ((((((w52.setCell ⟨gbAb, 0, none⟩ (.int .i64 tAh)).setCell ⟨gbAb, 1, none⟩ (.int .i64 tAp)).setCell ⟨gbAb, 2, none⟩ (.int .i64 tAq)).setCell ⟨gbAb, 3, none⟩ (.int .i64 tAr)).setCell ⟨gbAb, 4, none⟩ (.int .i64 tAs)).setCell ⟨gbAb, 5, none⟩ (.slice Ao56 tAk.length co56)) w.heap.size (fun _ => True) (.slice Ao56 tAk.length co56) tAk) := ⟨by (with_reducible repeat (first | apply Kd.R_alloc | apply Kd.R_drewN | apply Kd.R_drew)); exact Kd.R_mono (Kd.R_far (p := ⟨gbAb, 5, none⟩) (Kd.R_far (p := ⟨gbAb, 4, none⟩) (Kd.R_far (p := ⟨gbAb, 3, none⟩) (Kd.R_far (p := ⟨gbAb, 2, none⟩) (Kd.R_far (p := ⟨gbAb, 1, none⟩) (Kd.R_far (p := ⟨gbAb, 0, none⟩) (Kd.R_types HOBi.out BKAb.out (by decide)) (fun _ hk => hk.2) (.int .i64 tAh)) (fun _ hk => hk.2) (.int .i64 tAp)) (fun _ hk => hk.2) (.int .i64 tAq)) (fun _ hk => hk.2) (.int .i64 tAr)) (fun _ hk => hk.2) (.int .i64 tAs)) (fun _ hk => hk.2) (.slice Ao56 tAk.length co56)) (fun _ hk => trivial)⟩
 have n1_ : Aside0 (((((((w52.setCell ⟨gbAb, 0, none⟩ (.int .i64 tAh)).setCell ⟨gbAb, 1, none⟩ (.int .i64 tAp)).setCell ⟨gbAb, 2, none⟩ (.int .i64 tAq)).setCell ⟨gbAb, 3, none⟩ (.int .i64 tAr)).setCell ⟨gbAb, 4, none⟩ (.int .i64 tAs)).setCell ⟨gbAb, 5, none⟩ (.slice Ao56 tAk.length co56)).heap[gbAe]? = some (.cells #[.int .i64 a0_0, .int .i64 a0_1, .int .i64 a0_2, .int .i64 a0_3, .int .i64 a0_4, .slice A0_5 l0_5.length c0_5] 24 (0, 0))) := ⟨by (with_reducible repeat (first | refine blk_drewN ?_ _ | refine blk_drew ?_ | refine blk_alloc ?_ _)); refine blk_far ?_ NBAe_Ab.out _; refine blk_far ?_ NBAe_Ab.out _; refine blk_far ?_ NBAe_Ab.out _; refine blk_far ?_ NBAe_Ab.out _; refine blk_far ?_ NBAe_Ab.out _; refine blk_far ?_ NBAe_Ab.out _; (with_reducible repeat (first | refine blk_drewN ?_ _ | refine blk_drew ?_ | refine blk_alloc ?_ _)); exact BKAe.out⟩
 have n2_ : Aside0 (((((((w52.setCell ⟨gbAb, 0, none⟩ (.int .i64 tAh)).setCell ⟨gbAb, 1, none⟩ (.int .i64 tAp)).setCell ⟨gbAb, 2, none⟩ (.int .i64 tAq)).setCell ⟨gbAb, 3, none⟩ (.int .i64 tAr)).setCell ⟨gbAb, 4, none⟩ (.int .i64 tAs)).setCell ⟨gbAb, 5, none⟩ (.slice Ao56 tAk.length co56)).heap[gbAf]? = some (.cells #[.int .i64 a1_0, .int .i64 a1_1, .int .i64 a1_2, .int .i64 a1_3, .int .i64 a1_4, .slice A1_5 l1_5.length c1_5] 29 (0, 0))) := ⟨by (with_reducible repeat (first | refine blk_drewN ?_ _ | refine blk_drew ?_ | refine blk_alloc ?_ _)); refine blk_far ?_ NBAf_Ab.out _; refine blk_far ?_ NBAf_Ab.out _; refine blk_far ?_ NBAf_Ab.out _; refine blk_far ?_ NBAf_Ab.out _; refine blk_far ?_ NBAf_Ab.out _; refine blk_far ?_ NBAf_Ab.out _; (with_reducible repeat (first | refine blk_drewN ?_ _ | refine blk_drew ?_ | refine blk_alloc ?_ _)); exact BKAf.out⟩
 have n3_ : Aside0 (((((((w52.setCell ⟨gbAb, 0, none⟩ (.int .i64 tAh)).setCell ⟨gbAb, 1, none⟩ (.int .i64 tAp)).setCell ⟨gbAb, 2, none⟩ (.int .i64 tAq)).setCell ⟨gbAb, 3, none⟩ (.int .i64 tAr)).setCell ⟨gbAb, 4, none⟩ (.int .i64 tAs)).setCell ⟨gbAb, 5, none⟩ (.slice Ao56 tAk.length co56)).heap[gbAb]? = some (.cells #[.int .i64 tAh, .int .i64 tAp, .int .i64 tAq, .int .i64 tAr, .int .i64 tAs, .slice Ao56 tAk.length co56] 24 (0, 0))) := ⟨by (with_reducible repeat (first | refine blk_drewN ?_ _ | refine blk_drew ?_ | refine blk_alloc ?_ _)); refine blk_put (cs := #[.int .i64 tAh, .int .i64 tAp, .int .i64 tAq, .int .i64 tAr, .int .i64 tAs, .slice none 0 0]) ?_ 5 _ rfl; refine blk_put (cs := #[.int .i64 tAh, .int .i64 tAp, .int .i64 tAq, .int .i64 tAr, .int .i64 0, .slice none 0 0]) ?_ 4 _ rfl; refine blk_put (cs := #[.int .i64 tAh, .int .i64 tAp, .int .i64 tAq, .int .i64 0, .int .i64 0, .slice none 0 0]) ?_ 3 _ rfl; refine blk_put (cs := #[.int .i64 tAh, .int .i64 tAp, .int .i64 0, .int .i64 0, .int .i64 0, .slice none 0 0]) ?_ 2 _ rfl; refine blk_put (cs := #[.int .i64 tAh, .int .i64 0, .int .i64 0, .int .i64 0, .int .i64 0, .slice none 0 0]) ?_ 1 _ rfl; refine blk_put (cs := #[.int .i64 0, .int .i64 0, .int .i64 0, .int .i64 0, .int .i64 0, .slice none 0 0]) ?_ 0 _ rfl; (with_reducible repeat (first | refine blk_drewN ?_ _ | refine blk_drew ?_ | refine blk_alloc ?_ _)); exact BKAb.out⟩
 have n4_ : Aside0 (Below w.heap.size w ((((((w52.setCell ⟨gbAb, 0, none⟩ (.int .i64 tAh)).setCell ⟨gbAb, 1, none⟩ (.int .i64 tAp)).setCell ⟨gbAb, 2, none⟩ (.int .i64 tAq)).setCell ⟨gbAb, 3, none⟩ (.int .i64 tAr)).setCell ⟨gbAb, 4, none⟩ (.int .i64 tAs)).setCell ⟨gbAb, 5, none⟩ (.slice Ao56 tAk.length co56))) := ⟨by repeat (first | (with_reducible first | exact HB.out | apply below_alloc | apply pw_below_drewN | apply below_drew1 | refine below_set ?_ GEAe.out | refine below_set ?_ GEAf.out | refine below_set ?_ GEAb.out) | exact HB.out)⟩
 (try clear HOBi)
 (try clear BKAe)
 (try clear BKAf)
 (try clear BKAb)
 (try clear HB)
 generalize ((((((w52.setCell ⟨gbAb, 0, none⟩ (.int .i64 tAh)).setCell ⟨gbAb, 1, none⟩ (.int .i64 tAp)).setCell ⟨gbAb, 2, none⟩ (.int .i64 tAq)).setCell ⟨gbAb, 3, none⟩ (.int .i64 tAr)).setCell ⟨gbAb, 4, none⟩ (.int .i64 tAs)).setCell ⟨gbAb, 5, none⟩ (.slice Ao56 tAk.length co56)) = w57 at n0_ n1_ n2_ n3_ n4_ ⊢
 have HOBi := n0_
 have BKAe := n1_
 have BKAf := n2_
 have BKAb := n3_
 have HB := n4_
 clear n0_ n1_ n2_ n3_ n4_
 replace HOBi := Aside0.mk (Kd.R_drew HOBi.out)
 replace BKAe := Aside0.mk (blk_drew BKAe.out)
 replace BKAf := Aside0.mk (blk_drew BKAf.out)
 replace BKAb := Aside0.mk (blk_drew BKAb.out)
 replace HB := Aside0.mk (below_drew1 HB.out)
 refine start_ (n := 7) (S := fun w' => w'.cell? ⟨gbAb, 0, none⟩ = some (.int .i64 tAh) ∧ w'.cell? ⟨gbAb, 1, none⟩ = some (.int .i64 tAp) ∧ w'.cell? ⟨gbAb, 2, none⟩ = some (.int .i64 tAq) ∧ w'.cell? ⟨gbAb, 3, none⟩ = some (.int .i64 tAr) ∧ w'.cell? ⟨gbAb, 4, none⟩ = some (.int .i64 tAs) ∧ w'.cell? ⟨gbAb, 5, none⟩ = some (.slice Ao56 tAk.length co56) ∧ w'.cell? ⟨gbAf, 0, none⟩ = some (.int .i64 a1_0) ∧ w'.cell? ⟨gbAf, 1, none⟩ = some (.int .i64 a1_1) ∧ w'.cell? ⟨gbAf, 2, none⟩ = some (.int .i64 a1_2) ∧ w'.cell? ⟨gbAf, 3, none⟩ = some (.int .i64 a1_3) ∧ w'.cell? ⟨gbAf, 4, none⟩ = some (.int .i64 a1_4) ∧ w'.cell? ⟨gbAf, 5, none⟩ = some (.slice A1_5 l1_5.length c1_5)) (ds := []) #[false, false, false, false, false, false, false] (by kernel_rfl) rfl rfl ⟨(blk_cell BKAb.out 0).trans rfl, (blk_cell BKAb.out 1).trans rfl, (blk_cell BKAb.out 2).trans rfl, (blk_cell BKAb.out 3).trans rfl, (blk_cell BKAb.out 4).trans rfl, (blk_cell BKAb.out 5).trans rfl, (blk_cell BKAf.out 0).trans rfl, (blk_cell BKAf.out 1).trans rfl, (blk_cell BKAf.out 2).trans rfl, (blk_cell BKAf.out 3).trans rfl, (blk_cell BKAf.out 4).trans rfl, (blk_cell BKAf.out 5).trans rfl⟩ (fun hHeld => ?_)
 generalize w57.drew = w58 at HOBi BKAe BKAf BKAb HB hHeld ⊢
 refine pure_ (i := 3) (N := some 36) (v := ?_) (a' := ?_) #[false, false, false, true, false, false, false] rfl rfl (by kernel_rfl) (fun _ _ _ h => h) (Or.inl ⟨by rfl, ?_⟩) ?_ ?_
 rotate_left
 ·
  intro w'
  go_simp
  with_reducible rfl
 rotate_left
 ·
  simp only [Act.put, List.setIfInBounds_toArray, List.set_cons_zero, List.set_cons_succ, i64_w, i32_w]
  rfl
 refine take_ (i := 0) (N := some 33) (v := ?_) (a' := ?_) #[true, false, false, true, false, false, false] rfl rfl (by kernel_rfl) (fun _ _ _ h => h) (Or.inl ⟨by rfl, ?_⟩) hHeld ?_ ?_
 rotate_left
 ·
  rintro w' ⟨s0, s1, s2, s3, s4, s5, s6, s7, s8, s9, s10, s11⟩
  go_simp
  with_reducible rfl
 rotate_left
 ·
  simp only [Act.put, List.setIfInBounds_toArray, List.set_cons_zero, List.set_cons_succ, i64_w, i32_w]
  rfl
 refine take_ (i := 1) (N := some 34) (v := ?_) (a' := ?_) #[true, true, false, true, false, false, false] rfl rfl (by kernel_rfl) (fun _ _ _ h => h) (Or.inl ⟨by rfl, ?_⟩) hHeld ?_ ?_
 rotate_left
 ·
  rintro w' ⟨s0, s1, s2, s3, s4, s5, s6, s7, s8, s9, s10, s11⟩
  go_simp
  with_reducible rfl
 rotate_left
 ·
  simp only [Act.put, List.setIfInBounds_toArray, List.set_cons_zero, List.set_cons_succ, i64_w, i32_w]
  rfl
 refine take_ (i := 2) (N := some 35) (v := ?_) (a' := ?_) #[true, true, true, true, false, false, false] rfl rfl (by kernel_rfl) (fun _ _ _ h => h) (Or.inl ⟨by rfl, ?_⟩) hHeld ?_ ?_
 rotate_left
 ·
  rintro w' ⟨s0, s1, s2, s3, s4, s5, s6, s7, s8, s9, s10, s11⟩
  go_simp
  with_reducible rfl
 rotate_left
 ·
  simp only [Act.put, List.setIfInBounds_toArray, List.set_cons_zero, List.set_cons_succ, i64_w, i32_w]
  rfl
 refine one_ (i := 4) (N := some 37) #[true, true, true, true, true, false, false] rfl rfl (by kernel_rfl) (by decide) (fun K hK => ?_)
 refine goes_ Try.func21 (by kernel_rfl) rfl #[.agg #[.int .i64 tAh, .int .i64 tAp, .int .i64 tAq, .int .i64 tAr, .int .i64 tAs, .slice Ao56 tAk.length co56], .agg #[.int .i64 a1_0, .int .i64 a1_1, .int .i64 a1_2, .int .i64 a1_3, .int .i64 a1_4, .slice A1_5 l1_5.length c1_5], .slice A2 l2.length c2] (by rfl) rfl rfl (by (try simp only [List.map_toArray, List.map_cons, List.map_nil]); first | done | rfl | (simp only [List.length_drop, List.length_take]; rfl)) ?_
 with_reducible refine (plaitinglaw5_Make.calls k tAh tAp tAq tAr tAs _ _ tAk a1_0 a1_1 a1_2 a1_3 a1_4 _ _ l1_5 _ _ l2 tAi tCg tCh tCi tCj tCd _ ?side1 ?side2 ?side3 ?side4 ?side5 ?side6 A15.out).mono ?_
 (case side1 => repeat (first | exact (Kd.R_reads' HOBi.out).2.2 | (with_reducible refine Kd.C_alloc ?_ _) | (with_reducible refine Kd.C_drewN ?_ _) | (with_reducible refine Kd.C_drew ?_)))
 (case side2 => exact (Kd.R_reads' HOBi.out).2.1)
 (case side3 => repeat (first | exact (Kd.C_below HR1_5.out HB.out) | (with_reducible refine Kd.C_alloc ?_ _) | (with_reducible refine Kd.C_drewN ?_ _) | (with_reducible refine Kd.C_drew ?_)))
 (case side4 => exact HC1_5.out)
 (case side5 => repeat (first | exact (Kd.C_below HR2.out HB.out) | (with_reducible refine Kd.C_alloc ?_ _) | (with_reducible refine Kd.C_drewN ?_ _) | (with_reducible refine Kd.C_drew ?_)))
 (case side6 => exact HC2.out)
 rintro e w59 ⟨vCp, rfl, ho0, hb⟩
 refine ⟨_, rfl, ?_⟩
 have HOBu := Aside0.mk (Kd.R_lower ho0 (below_size (pH_ HB.out)))
 replace HOBi := Aside0.mk (Kd.R_below (pR_ HOBi.out) hb)
 replace BKAe := Aside0.mk (blk_below (pB_ BKAe.out) hb)
 replace BKAf := Aside0.mk (blk_below (pB_ BKAf.out) hb)
 replace BKAb := Aside0.mk (blk_below (pB_ BKAb.out) hb)
 replace HB := Aside0.mk (below_step (pH_ HB.out) hb)
 (try clear hb)
 (try clear hb2)
 (try clear hk)
 (try clear hi)
 (try clear ho0)
 obtain ⟨Ao60, co60, eo60⟩ := Kd.R_slice HOBu.out
 (first | subst eo60 | (injection eo60 with f1_ f2_ f3_; have f4_ := f1_.symm; have f5_ := f3_.symm; clear f1_ f2_ f3_; subst f4_; subst f5_))
 refine hK.out _ _ ⟨(blk_cell BKAb.out 0).trans rfl, (blk_cell BKAb.out 1).trans rfl, (blk_cell BKAb.out 2).trans rfl, (blk_cell BKAb.out 3).trans rfl, (blk_cell BKAb.out 4).trans rfl, (blk_cell BKAb.out 5).trans rfl, (blk_cell BKAf.out 0).trans rfl, (blk_cell BKAf.out 1).trans rfl, (blk_cell BKAf.out 2).trans rfl, (blk_cell BKAf.out 3).trans rfl, (blk_cell BKAf.out 4).trans rfl, (blk_cell BKAf.out 5).trans rfl⟩ (fun hHeld => ?_)
 clear hK K
 refine norm_ (a' := ?_) ?_ ?_
 rotate_left
 ·
  show Act.put _ (some 37) _ = _
  simp only [Act.put, List.setIfInBounds_toArray, List.set_cons_zero, List.set_cons_succ, i64_w, i32_w]
  rfl
 refine one_ (i := 5) (N := some 38) #[true, true, true, true, true, true, false] rfl rfl (by kernel_rfl) (by decide) (fun K hK => ?_)
 refine goes_ Try.func31 (by kernel_rfl) rfl #[.agg #[.int .i64 tAh, .int .i64 tAp, .int .i64 tAq, .int .i64 tAr, .int .i64 tAs, .slice Ao56 tAk.length co56], .agg #[.int .i64 tAi, .int .i64 tCg, .int .i64 tCh, .int .i64 tCi, .int .i64 tCj, .slice Ao60 tCd.length co60]] (by rfl) rfl rfl (by (try simp only [List.map_toArray, List.map_cons, List.map_nil]); first | done | rfl | (simp only [List.length_drop, List.length_take]; rfl)) ?_
 with_reducible refine (plaitingref5_Text.calls k tAh tAp tAq tAr tAs _ _ tAk tAi tCg tCh tCi tCj _ _ tCd tAa _ ?side1 ?side2 ?side3 ?side4 A16.out).mono ?_
 (case side1 => repeat (first | exact (Kd.R_reads' HOBi.out).2.2 | (with_reducible refine Kd.C_alloc ?_ _) | (with_reducible refine Kd.C_drewN ?_ _) | (with_reducible refine Kd.C_drew ?_)))
 (case side2 => exact (Kd.R_reads' HOBi.out).2.1)
 (case side3 => repeat (first | exact (Kd.R_reads' HOBu.out).2.2 | (with_reducible refine Kd.C_alloc ?_ _) | (with_reducible refine Kd.C_drewN ?_ _) | (with_reducible refine Kd.C_drew ?_)))
 (case side4 => exact (Kd.R_reads' HOBu.out).2.1)
 rintro e w61 ⟨rfl, hb⟩
 refine ⟨_, rfl, ?_⟩
 replace HOBi := Aside0.mk (Kd.R_below (pR_ HOBi.out) hb)
 replace HOBu := Aside0.mk (Kd.R_below (pR_ HOBu.out) hb)
 replace BKAe := Aside0.mk (blk_below (pB_ BKAe.out) hb)
 replace BKAf := Aside0.mk (blk_below (pB_ BKAf.out) hb)
 replace BKAb := Aside0.mk (blk_below (pB_ BKAb.out) hb)
 replace HB := Aside0.mk (below_step (pH_ HB.out) hb)
 (try clear hb)
 (try clear hb2)
 (try clear hk)
 (try clear hi)
 refine hK.out _ _ ⟨(blk_cell BKAb.out 0).trans rfl, (blk_cell BKAb.out 1).trans rfl, (blk_cell BKAb.out 2).trans rfl, (blk_cell BKAb.out 3).trans rfl, (blk_cell BKAb.out 4).trans rfl, (blk_cell BKAb.out 5).trans rfl, (blk_cell BKAf.out 0).trans rfl, (blk_cell BKAf.out 1).trans rfl, (blk_cell BKAf.out 2).trans rfl, (blk_cell BKAf.out 3).trans rfl, (blk_cell BKAf.out 4).trans rfl, (blk_cell BKAf.out 5).trans rfl⟩ (fun hHeld => ?_)
 clear hK K
 refine norm_ (a' := ?_) ?_ ?_
 rotate_left
 ·
  show Act.put _ (some 38) _ = _
  simp only [Act.put, List.setIfInBounds_toArray, List.set_cons_zero, List.set_cons_succ, i64_w, i32_w]
  rfl
 refine pure_ (i := 6) (N := some 16) (v := ?_) (a' := ?_) #[true, true, true, true, true, true, true] rfl rfl (by kernel_rfl) (fun _ _ _ h => h) (Or.inl ⟨by rfl, ?_⟩) ?_ ?_
 rotate_left
 ·
  intro w'
  go_simp
  with_reducible rfl
 rotate_left
 ·
  simp only [Act.put, List.setIfInBounds_toArray, List.set_cons_zero, List.set_cons_succ, i64_w, i32_w]
  rfl
 refine done_ (by kernel_rfl) ?_
 try go_wp2_with (first | ((with_reducible refine gate_callee (f := 24) rfl ?_); refine goesL_ (some 43) rfl rfl Try.func24 (by kernel_rfl) rfl #[.int .i64 a4, .int .i64 (wrap64 ((tAa.size : Int) + 1))] rfl (by (try simp only [List.map_toArray, List.map_cons, List.map_nil]); first | done | rfl | (simp only [List.length_drop, List.length_take]; rfl)) ?_; (with_reducible refine (plaitinglaw5_within.calls a4 (wrap64 ((tAa.size : Int) + 1)) tAg _ A17.out).mono ?_); rintro e w' ⟨rfl, ⟨nd, rfl⟩⟩; refine ⟨_, rfl, ?_⟩) | ((with_reducible refine gate_callee (f := 24) rfl ?_); refine goesL_ (some 53) rfl rfl Try.func24 (by kernel_rfl) rfl #[.int .i64 a3, .int .i64 ((tAa.extract 0 ((ji18) : Int).toNat).size : Int)] rfl (by (try simp only [List.map_toArray, List.map_cons, List.map_nil]); first | done | (simp only [hji18]; rfl) | rfl | (simp only [List.length_drop, List.length_take]; rfl)) ?_; (with_reducible refine (plaitinglaw5_within.calls a3 ((tAa.extract 0 ((ji18) : Int).toNat).size : Int) tBq _ A21.out).mono ?_); rintro e w' ⟨rfl, ⟨nd, rfl⟩⟩; refine ⟨_, rfl, ?_⟩) | ((with_reducible refine gate_callee (f := 32) rfl ?_); refine goesL_ (some 54) rfl rfl Try.func32 (by kernel_rfl) rfl #[.string (tAa.extract 0 ((ji18) : Int).toNat), .int .i64 tBq] rfl (by (try simp only [List.map_toArray, List.map_cons, List.map_nil]); first | done | (simp only [hji18]; rfl) | rfl | (simp only [List.length_drop, List.length_take]; rfl)) ?_; (with_reducible refine (plaitingref1_Turn.calls k (tAa.extract 0 ((ji18) : Int).toNat) tBq tAt _ A22.out).mono ?_); rintro e w' ⟨rfl, ⟨nd, rfl⟩⟩; refine ⟨_, rfl, ?_⟩))
 (try (rw [drewN_self w61]; generalize hq_ : World.drewN w61 _ = w61; have n0_ : Aside0 (Kd.R (Kd.int .i64) 3 w61 w.heap.size (fun _ => True) (.slice Ao56 tAk.length co56) tAk) := ⟨by rw [← hq_]; exact (pR_ HOBi.out)⟩; have n1_ : Aside0 (Kd.R k26 26 w61 w.heap.size (fun _ => True) (.slice Ao60 tCd.length co60) tCd) := ⟨by rw [← hq_]; exact (pR_ HOBu.out)⟩; have n2_ : Aside0 (w61.heap[gbAe]? = some (.cells #[.int .i64 a0_0, .int .i64 a0_1, .int .i64 a0_2, .int .i64 a0_3, .int .i64 a0_4, .slice A0_5 l0_5.length c0_5] 24 (0, 0))) := ⟨by rw [← hq_]; exact (pB_ BKAe.out)⟩; have n3_ : Aside0 (w61.heap[gbAf]? = some (.cells #[.int .i64 a1_0, .int .i64 a1_1, .int .i64 a1_2, .int .i64 a1_3, .int .i64 a1_4, .slice A1_5 l1_5.length c1_5] 29 (0, 0))) := ⟨by rw [← hq_]; exact (pB_ BKAf.out)⟩; have n4_ : Aside0 (w61.heap[gbAb]? = some (.cells #[.int .i64 tAh, .int .i64 tAp, .int .i64 tAq, .int .i64 tAr, .int .i64 tAs, .slice Ao56 tAk.length co56] 24 (0, 0))) := ⟨by rw [← hq_]; exact (pB_ BKAb.out)⟩; have n5_ : Aside0 (Below w.heap.size w w61) := ⟨by rw [← hq_]; exact (pH_ HB.out)⟩; clear HOBi HOBu BKAe BKAf BKAb HB hq_; have HOBi := n0_; have HOBu := n1_; have BKAe := n2_; have BKAf := n3_; have BKAb := n4_; have HB := n5_; clear n0_ n1_ n2_ n3_ n4_ n5_))
 replace HOBi := Aside0.mk (Kd.R_drew HOBi.out)
 replace HOBu := Aside0.mk (Kd.R_drew HOBu.out)
 replace BKAe := Aside0.mk (blk_drew BKAe.out)
 replace BKAf := Aside0.mk (blk_drew BKAf.out)
 replace BKAb := Aside0.mk (blk_drew BKAb.out)
 replace HB := Aside0.mk (below_drew1 HB.out)
 refine start_ (n := 47) (S := fun w' => True) (ds := []) #[false, false, false, false, false, false, false, false, false, false, false, false, false, false, false, false, false, false, false, false, false, false, false, false, false, false, false, false, false, false, false, false, false, false, false, false, false, false, false, false, false, false, false, false, false, false, false] (by kernel_rfl) rfl rfl trivial (fun hHeld => ?_); refine with_tabW plaitinglaw5_FrameReads.tab10 plaitinglaw5_FrameReads.bits10 (fun HT_ HW_ => ?_)
 generalize w61.drew = w62 at HOBi HOBu BKAe BKAf BKAb HB hHeld ⊢
 refine pq_ 0 55 HT_ ?_
 refine pq_ 1 56 HT_ ?_
 refine pq_ 2 57 HT_ ?_
 refine pq_ 3 58 HT_ ?_
 refine pq_ 6 61 HT_ ?_
 refine pq_ 7 62 HT_ ?_
 refine pq_ 8 63 HT_ ?_
 refine pq_ 9 64 HT_ ?_
 refine pq_ 10 65 HT_ ?_
 refine pq_ 11 66 HT_ ?_
 refine pq_ 12 67 HT_ ?_
 refine pq_ 15 70 HT_ ?_
 refine pq_ 16 71 HT_ ?_
 refine pq_ 17 72 HT_ ?_
 refine pq_ 19 74 HT_ ?_
 refine pq_ 20 75 HT_ ?_
 refine pq_ 22 77 HT_ ?_
 refine pq_ 23 78 HT_ ?_
 refine pq_ 24 79 HT_ ?_
 refine pq_ 25 80 HT_ ?_
 refine pq_ 29 84 HT_ ?_
 refine pq_ 30 85 HT_ ?_
 refine pq_ 31 86 HT_ ?_
 refine pq_ 32 87 HT_ ?_
 refine pq_ 33 88 HT_ ?_
 refine pq_ 37 92 HT_ ?_
 refine pq_ 38 93 HT_ ?_
 refine pq_ 39 94 HT_ ?_
 refine one_ (i := 4) (N := some 59) #[true, true, true, true, true, false, true, true, true, true, true, true, true, false, false, true, true, true, false, true, true, false, true, true, true, true, false, false, false, true, true, true, true, true, false, false, false, true, true, true, false, false, false, false, false, false, false] rfl rfl (one_of HT_.out (by kernel_rfl)) (by decide) (fun K hK => ?_)
 refine goes_ Try.func24 (by kernel_rfl) rfl #[.int .i64 a3, .int .i64 (tAa.size : Int)] (by rfl) rfl rfl (by (try simp only [List.map_toArray, List.map_cons, List.map_nil]); first | done | rfl | (simp only [List.length_drop, List.length_take]; rfl)) ?_
 with_reducible refine (plaitinglaw5_within.calls a3 (tAa.size : Int) tBm _ A23.out).mono ?_
 rintro e w' ⟨rfl, ⟨nd, rfl⟩⟩
 refine ⟨_, rfl, ?_⟩
 refine hK.out _ _ trivial (fun hHeld => ?_)
 clear hK K
 refine norm_ (a' := ?_) ?_ ?_
 rotate_left
 ·
  show Act.put _ (some 59) _ = _
  simp only [Act.put, List.setIfInBounds_toArray, List.set_cons_zero, List.set_cons_succ, i64_w, i32_w]
  rfl
 refine one_ (i := 5) (N := some 60) #[true, true, true, true, true, true, true, true, true, true, true, true, true, false, false, true, true, true, false, true, true, false, true, true, true, true, false, false, false, true, true, true, true, true, false, false, false, true, true, true, false, false, false, false, false, false, false] rfl rfl (one_of HT_.out (by kernel_rfl)) (by decide) (fun K hK => ?_)
 refine goes_ Try.func32 (by kernel_rfl) rfl #[.string tAa, .int .i64 tBm] (by rfl) rfl rfl (by (try simp only [List.map_toArray, List.map_cons, List.map_nil]); first | done | rfl | (simp only [List.length_drop, List.length_take]; rfl)) ?_
 with_reducible refine (plaitingref1_Turn.calls k tAa tBm tBa _ A24.out).mono ?_
 rintro e w' ⟨rfl, ⟨nd, rfl⟩⟩
 refine ⟨_, rfl, ?_⟩
 refine hK.out _ _ trivial (fun hHeld => ?_)
 clear hK K
 refine norm_ (a' := ?_) ?_ ?_
 rotate_left
 ·
  show Act.put _ (some 60) _ = _
  simp only [Act.put, List.setIfInBounds_toArray, List.set_cons_zero, List.set_cons_succ, i64_w, i32_w]
  rfl
 refine one_ (i := 13) (N := some 68) #[true, true, true, true, true, true, true, true, true, true, true, true, true, true, false, true, true, true, false, true, true, false, true, true, true, true, false, false, false, true, true, true, true, true, false, false, false, true, true, true, false, false, false, false, false, false, false] rfl rfl (one_of HT_.out (by kernel_rfl)) (by decide) (fun K hK => ?_)
 refine goes_ Try.func33 (by kernel_rfl) rfl #[.slice A5 l5.length c5] (by rfl) rfl rfl (by (try simp only [List.map_toArray, List.map_cons, List.map_nil]); first | done | rfl | (simp only [List.length_drop, List.length_take]; rfl)) ?_
 with_reducible refine (plaitinglaw1_Text.calls k _ _ l5 tAm _ ?side1 ?side2 A29.out).mono ?_
 (case side1 => repeat (first | exact (Kd.C_below HR5.out (pH_ HB.out)) | (with_reducible refine Kd.C_alloc ?_ _) | (with_reducible refine Kd.C_drewN ?_ _) | (with_reducible refine Kd.C_drew ?_)))
 (case side2 => exact HC5.out)
 rintro e w63 ⟨rfl, hb⟩
 refine ⟨_, rfl, ?_⟩
 replace HOBi := Aside0.mk (Kd.R_below (pR_ HOBi.out) hb)
 replace HOBu := Aside0.mk (Kd.R_below (pR_ HOBu.out) hb)
 replace BKAe := Aside0.mk (blk_below (pB_ BKAe.out) hb)
 replace BKAf := Aside0.mk (blk_below (pB_ BKAf.out) hb)
 replace BKAb := Aside0.mk (blk_below (pB_ BKAb.out) hb)
 replace HB := Aside0.mk (below_step (pH_ HB.out) hb)
 (try clear hb)
 (try clear hb2)
 (try clear hk)
 (try clear hi)
 refine hK.out _ _ trivial (fun hHeld => ?_)
 clear hK K
 refine norm_ (a' := ?_) ?_ ?_
 rotate_left
 ·
  show Act.put _ (some 68) _ = _
  simp only [Act.put, List.setIfInBounds_toArray, List.set_cons_zero, List.set_cons_succ, i64_w, i32_w]
  rfl
 refine pq_ 14 69 HT_ ?_
 refine pq_ 18 73 HT_ ?_
 refine one_ (i := 21) (N := some 76) #[true, true, true, true, true, true, true, true, true, true, true, true, true, true, true, true, true, true, true, true, true, true, true, true, true, true, false, false, false, true, true, true, true, true, false, false, false, true, true, true, false, false, false, false, false, false, false] rfl rfl (one_of HT_.out (by kernel_rfl)) (by decide) (fun K hK => ?_)
 refine goes_ Try.func34 (by kernel_rfl) rfl #[.string tAt] (by rfl) rfl rfl (by (try simp only [List.map_toArray, List.map_cons, List.map_nil]); first | done | rfl | (simp only [List.length_drop, List.length_take]; rfl)) ?_
 with_reducible refine (plaitingref2_Wrap.calls k tAt tAz _ A34.out).mono ?_
 rintro e w' ⟨rfl, ⟨nd, rfl⟩⟩
 refine ⟨_, rfl, ?_⟩
 refine hK.out _ _ trivial (fun hHeld => ?_)
 clear hK K
 refine norm_ (a' := ?_) ?_ ?_
 rotate_left
 ·
  show Act.put _ (some 76) _ = _
  simp only [Act.put, List.setIfInBounds_toArray, List.set_cons_zero, List.set_cons_succ, i64_w, i32_w]
  rfl
 refine one_ (i := 26) (N := some 81) #[true, true, true, true, true, true, true, true, true, true, true, true, true, true, true, true, true, true, true, true, true, true, true, true, true, true, true, false, false, true, true, true, true, true, false, false, false, true, true, true, false, false, false, false, false, false, false] rfl rfl (one_of HT_.out (by kernel_rfl)) (by decide) (fun K hK => ?_)
 refine goes_ Try.func24 (by kernel_rfl) rfl #[.int .i64 a4, .int .i64 (tAt.size : Int)] (by rfl) rfl rfl (by (try simp only [List.map_toArray, List.map_cons, List.map_nil]); first | done | rfl | (simp only [List.length_drop, List.length_take]; rfl)) ?_
 with_reducible refine (plaitinglaw5_within.calls a4 (tAt.size : Int) tBf _ A35.out).mono ?_
 rintro e w' ⟨rfl, ⟨nd, rfl⟩⟩
 refine ⟨_, rfl, ?_⟩
 refine hK.out _ _ trivial (fun hHeld => ?_)
 clear hK K
 refine norm_ (a' := ?_) ?_ ?_
 rotate_left
 ·
  show Act.put _ (some 81) _ = _
  simp only [Act.put, List.setIfInBounds_toArray, List.set_cons_zero, List.set_cons_succ, i64_w, i32_w]
  rfl
 refine one_ (i := 27) (N := some 82) #[true, true, true, true, true, true, true, true, true, true, true, true, true, true, true, true, true, true, true, true, true, true, true, true, true, true, true, true, false, true, true, true, true, true, false, false, false, true, true, true, false, false, false, false, false, false, false] rfl rfl (one_of HT_.out (by kernel_rfl)) (by decide) (fun K hK => ?_)
 refine goes_ Try.func32 (by kernel_rfl) rfl #[.string tAt, .int .i64 tBf] (by rfl) rfl rfl (by (try simp only [List.map_toArray, List.map_cons, List.map_nil]); first | done | rfl | (simp only [List.length_drop, List.length_take]; rfl)) ?_
 with_reducible refine (plaitingref1_Turn.calls k tAt tBf tBc _ A36.out).mono ?_
 rintro e w' ⟨rfl, ⟨nd, rfl⟩⟩
 refine ⟨_, rfl, ?_⟩
 refine hK.out _ _ trivial (fun hHeld => ?_)
 clear hK K
 refine norm_ (a' := ?_) ?_ ?_
 rotate_left
 ·
  show Act.put _ (some 82) _ = _
  simp only [Act.put, List.setIfInBounds_toArray, List.set_cons_zero, List.set_cons_succ, i64_w, i32_w]
  rfl
 refine one_ (i := 28) (N := some 83) #[true, true, true, true, true, true, true, true, true, true, true, true, true, true, true, true, true, true, true, true, true, true, true, true, true, true, true, true, true, true, true, true, true, true, false, false, false, true, true, true, false, false, false, false, false, false, false] rfl rfl (one_of HT_.out (by kernel_rfl)) (by decide) (fun K hK => ?_)
 refine goes_ Try.func34 (by kernel_rfl) rfl #[.string tBc] (by rfl) rfl rfl (by (try simp only [List.map_toArray, List.map_cons, List.map_nil]); first | done | rfl | (simp only [List.length_drop, List.length_take]; rfl)) ?_
 with_reducible refine (plaitingref2_Wrap.calls k tBc tAw _ A37.out).mono ?_
 rintro e w' ⟨rfl, ⟨nd, rfl⟩⟩
 refine ⟨_, rfl, ?_⟩
 refine hK.out _ _ trivial (fun hHeld => ?_)
 clear hK K
 refine norm_ (a' := ?_) ?_ ?_
 rotate_left
 ·
  show Act.put _ (some 83) _ = _
  simp only [Act.put, List.setIfInBounds_toArray, List.set_cons_zero, List.set_cons_succ, i64_w, i32_w]
  rfl
 refine one_ (i := 34) (N := some 89) #[true, true, true, true, true, true, true, true, true, true, true, true, true, true, true, true, true, true, true, true, true, true, true, true, true, true, true, true, true, true, true, true, true, true, true, false, false, true, true, true, false, false, false, false, false, false, false] rfl rfl (one_of HT_.out (by kernel_rfl)) (by decide) (fun K hK => ?_)
 refine goes_ Try.func24 (by kernel_rfl) rfl #[.int .i64 a4, .int .i64 (wrap64 (((tAa.extract 0 ((ji18) : Int).toNat).size : Int) + 1))] (by rfl) rfl rfl (by (try simp only [List.map_toArray, List.map_cons, List.map_nil]); first | done | (simp only [hji18]; rfl) | rfl | (simp only [List.length_drop, List.length_take]; rfl)) ?_
 with_reducible refine (plaitinglaw5_within.calls a4 (wrap64 (((tAa.extract 0 ((ji18) : Int).toNat).size : Int) + 1)) tAj _ A38.out).mono ?_
 rintro e w' ⟨rfl, ⟨nd, rfl⟩⟩
 refine ⟨_, rfl, ?_⟩
 refine hK.out _ _ trivial (fun hHeld => ?_)
 clear hK K
 refine norm_ (a' := ?_) ?_ ?_
 rotate_left
 ·
  show Act.put _ (some 89) _ = _
  simp only [Act.put, List.setIfInBounds_toArray, List.set_cons_zero, List.set_cons_succ, i64_w, i32_w]
  rfl
 refine pq_ 35 90 HT_ ?_
 refine one_ (i := 36) (N := some 91) #[true, true, true, true, true, true, true, true, true, true, true, true, true, true, true, true, true, true, true, true, true, true, true, true, true, true, true, true, true, true, true, true, true, true, true, true, true, true, true, true, false, false, false, false, false, false, false] rfl rfl (one_of HT_.out (by kernel_rfl)) (by decide) (fun K hK => ?_)
 refine goes_ Try.func34 (by kernel_rfl) rfl #[.string ((tAa.extract 0 ((ji18) : Int).toNat).extract 0 (tAj : Int).toNat)] (by rfl) rfl rfl (by (try simp only [List.map_toArray, List.map_cons, List.map_nil]); first | done | (simp only [hji18]; rfl) | rfl | (simp only [List.length_drop, List.length_take]; rfl)) ?_
 with_reducible refine (plaitingref2_Wrap.calls k ((tAa.extract 0 ((ji18) : Int).toNat).extract 0 (tAj : Int).toNat) tAv _ A41.out).mono ?_
 rintro e w' ⟨rfl, ⟨nd, rfl⟩⟩
 refine ⟨_, rfl, ?_⟩
 refine hK.out _ _ trivial (fun hHeld => ?_)
 clear hK K
 refine norm_ (a' := ?_) ?_ ?_
 rotate_left
 ·
  show Act.put _ (some 91) _ = _
  simp only [Act.put, List.setIfInBounds_toArray, List.set_cons_zero, List.set_cons_succ, i64_w, i32_w]
  rfl
 refine one_ (i := 40) (N := some 95) #[true, true, true, true, true, true, true, true, true, true, true, true, true, true, true, true, true, true, true, true, true, true, true, true, true, true, true, true, true, true, true, true, true, true, true, true, true, true, true, true, true, false, false, false, false, false, false] rfl rfl (one_of HT_.out (by kernel_rfl)) (by decide) (fun K hK => ?_)
 refine goes_ Try.func24 (by kernel_rfl) rfl #[.int .i64 a3, .int .i64 20] (by rfl) rfl rfl (by (try simp only [List.map_toArray, List.map_cons, List.map_nil]); first | done | rfl | (simp only [List.length_drop, List.length_take]; rfl)) ?_
 with_reducible refine (plaitinglaw5_within.calls a3 20 tAy _ A42.out).mono ?_
 rintro e w' ⟨rfl, ⟨nd, rfl⟩⟩
 refine ⟨_, rfl, ?_⟩
 refine hK.out _ _ trivial (fun hHeld => ?_)
 clear hK K
 refine norm_ (a' := ?_) ?_ ?_
 rotate_left
 ·
  show Act.put _ (some 95) _ = _
  simp only [Act.put, List.setIfInBounds_toArray, List.set_cons_zero, List.set_cons_succ, i64_w, i32_w]
  rfl
 refine pq_ 41 96 HT_ ?_
 refine one_ (i := 42) (N := some 97) #[true, true, true, true, true, true, true, true, true, true, true, true, true, true, true, true, true, true, true, true, true, true, true, true, true, true, true, true, true, true, true, true, true, true, true, true, true, true, true, true, true, true, true, false, false, false, false] rfl rfl (one_of HT_.out (by kernel_rfl)) (by decide) (fun K hK => ?_)
 refine goes_ Try.func28 (by kernel_rfl) rfl #[.int .i64 a4, .int .i64 (wrap64 (1 + tAy))] (by rfl) rfl rfl (by (try simp only [List.map_toArray, List.map_cons, List.map_nil]); first | done | rfl | (simp only [List.length_drop, List.length_take]; rfl)) ?_
 with_reducible refine (plaitingref1_Bits.calls k a4 (wrap64 (1 + tAy)) tAn _ A43.out).mono ?_
 rintro e w' ⟨rfl, ⟨nd, rfl⟩⟩
 refine ⟨_, rfl, ?_⟩
 refine hK.out _ _ trivial (fun hHeld => ?_)
 clear hK K
 refine norm_ (a' := ?_) ?_ ?_
 rotate_left
 ·
  show Act.put _ (some 97) _ = _
  simp only [Act.put, List.setIfInBounds_toArray, List.set_cons_zero, List.set_cons_succ, i64_w, i32_w]
  rfl
 refine pq_ 43 98 HT_ ?_
 refine one_ (i := 44) (N := some 99) #[true, true, true, true, true, true, true, true, true, true, true, true, true, true, true, true, true, true, true, true, true, true, true, true, true, true, true, true, true, true, true, true, true, true, true, true, true, true, true, true, true, true, true, true, true, false, false] rfl rfl (one_of HT_.out (by kernel_rfl)) (by decide) (fun K hK => ?_)
 refine goes_ Try.func34 (by kernel_rfl) rfl #[.string ((tAa.extract 0 ((ji18) : Int).toNat) ++ tAn)] (by rfl) rfl rfl (by (try simp only [List.map_toArray, List.map_cons, List.map_nil]); first | done | (simp only [hji18]; rfl) | rfl | (simp only [List.length_drop, List.length_take]; rfl)) ?_
 with_reducible refine (plaitingref2_Wrap.calls k ((tAa.extract 0 ((ji18) : Int).toNat) ++ tAn) tAu _ A45.out).mono ?_
 rintro e w' ⟨rfl, ⟨nd, rfl⟩⟩
 refine ⟨_, rfl, ?_⟩
 refine hK.out _ _ trivial (fun hHeld => ?_)
 clear hK K
 refine norm_ (a' := ?_) ?_ ?_
 rotate_left
 ·
  show Act.put _ (some 99) _ = _
  simp only [Act.put, List.setIfInBounds_toArray, List.set_cons_zero, List.set_cons_succ, i64_w, i32_w]
  rfl
 refine one_ (i := 45) (N := some 100) #[true, true, true, true, true, true, true, true, true, true, true, true, true, true, true, true, true, true, true, true, true, true, true, true, true, true, true, true, true, true, true, true, true, true, true, true, true, true, true, true, true, true, true, true, true, true, false] rfl rfl (one_of HT_.out (by kernel_rfl)) (by decide) (fun K hK => ?_)
 refine Kd.R_lit_step Kd.string _ 9 ?hg (N := 100) ?hd (xs := ([tBa, tAa.extract 0 (tAg : Int).toNat, ((tAa.extract 0 (tAg : Int).toNat) ++ tAm) ++ (tAa.extract (tAg : Int).toNat tAa.size), a6, tAz, tAw, tAv, tAu] : List ByteArray)) (inner := [.string tBa, .string (tAa.extract 0 (tAg : Int).toNat), .string (((tAa.extract 0 (tAg : Int).toNat) ++ tAm) ++ (tAa.extract (tAg : Int).toNat tAa.size)), .string a6, .string tAz, .string tAw, .string tAv, .string tAu]) (ok := fun _ => True) (okp := fun _ => True) ?hr ?hp (fun _ hk => hk) trivial (Below.refl _ _) (Nat.le_refl _) (by simp) ?_; (case hd => rfl); (case hg => rfl); (case hr => first | (go_simp; done) | (go_simp; rfl)); (case hp => exact (Reps.one (show Kd.M Kd.string _ _ _ tBa [.string tBa] from rfl) (Reps.one (show Kd.M Kd.string _ _ _ (tAa.extract 0 (tAg : Int).toNat) [.string (tAa.extract 0 (tAg : Int).toNat)] from rfl) (Reps.one (show Kd.M Kd.string _ _ _ (((tAa.extract 0 (tAg : Int).toNat) ++ tAm) ++ (tAa.extract (tAg : Int).toNat tAa.size)) [.string (((tAa.extract 0 (tAg : Int).toNat) ++ tAm) ++ (tAa.extract (tAg : Int).toNat tAa.size))] from rfl) (Reps.one (show Kd.M Kd.string _ _ _ a6 [.string a6] from rfl) (Reps.one (show Kd.M Kd.string _ _ _ tAz [.string tAz] from rfl) (Reps.one (show Kd.M Kd.string _ _ _ tAw [.string tAw] from rfl) (Reps.one (show Kd.M Kd.string _ _ _ tAv [.string tAv] from rfl) (Reps.one (show Kd.M Kd.string _ _ _ tAu [.string tAu] from rfl) (Reps.none _ _))))))))))
 intro vCk w64 ho65 hb hg_ hnew_
 clear hg_ hnew_
 (first | rw [← NyAx.out] at ho65 | (simp only [Int.reduceToNat] at ho65; rw [← NyAx.out] at ho65))
 have HOCm := Aside0.mk (Kd.R_lower ho65 (below_size (pH_ HB.out)))
 replace HOBi := Aside0.mk (Kd.R_below (pR_ HOBi.out) hb)
 replace HOBu := Aside0.mk (Kd.R_below (pR_ HOBu.out) hb)
 replace BKAe := Aside0.mk (blk_below (pB_ BKAe.out) hb)
 replace BKAf := Aside0.mk (blk_below (pB_ BKAf.out) hb)
 replace BKAb := Aside0.mk (blk_below (pB_ BKAb.out) hb)
 replace HB := Aside0.mk (below_step (pH_ HB.out) hb)
 clear hb ho65
 refine hK.out _ _ trivial (fun hHeld => ?_)
 clear hK K
 refine norm_ (a' := ?_) ?_ ?_
 rotate_left
 ·
  show Act.put _ (some 100) _ = _
  simp only [Act.put, List.setIfInBounds_toArray, List.set_cons_zero, List.set_cons_succ, i64_w, i32_w]
  rfl
 refine pq_ 46 20 HT_ ?_
 refine done_ (done_of HT_.out (by kernel_rfl)) ?_
 try go_wp2
 go_loopg [21] k (fun kq v21 w' => ∃ (x21_1 : Int), v21 = .int .i64 x21_1 ∧ Aside0 (plaitinglaw5_FrameReads.l0 kq yAx x21_1 tAh tAp tAq tAr tAs tAk = some r) ∧ Aside0 (kq ≤ k) ∧ Aside0 (Kd.R Kd.string 9 w' w.heap.size (fun _ => True) vCk yAx) ∧ Aside0 (Kd.R (Kd.int .i64) 3 w' w.heap.size (fun _ => True) (.slice Ao56 tAk.length co56) tAk) ∧ Aside0 (w'.heap[gbAe]? = some (.cells #[.int .i64 a0_0, .int .i64 a0_1, .int .i64 a0_2, .int .i64 a0_3, .int .i64 a0_4, (.slice A0_5 l0_5.length c0_5)] 24 (0, 0))) ∧ Aside0 (w'.heap[gbAf]? = some (.cells #[.int .i64 a1_0, .int .i64 a1_1, .int .i64 a1_2, .int .i64 a1_3, .int .i64 a1_4, (.slice A1_5 l1_5.length c1_5)] 29 (0, 0))) ∧ Aside0 (w'.heap[gbAb]? = some (.cells #[.int .i64 tAh, .int .i64 tAp, .int .i64 tAq, .int .i64 tAr, .int .i64 tAs, (.slice Ao56 tAk.length co56)] 24 (0, 0))) ∧ Aside0 (Below w.heap.size w w'))
 case atStart => exact ⟨(0), (by first | rfl | (simp; done) | (simp [*]; done)), H', ⟨Nat.le_refl _⟩, ⟨by (with_reducible repeat (first | apply Kd.R_alloc | apply Kd.R_drewN | apply Kd.R_drew)); exact HOCm.out⟩, ⟨by (with_reducible repeat (first | apply Kd.R_alloc | apply Kd.R_drewN | apply Kd.R_drew)); exact HOBi.out⟩, ⟨by (with_reducible repeat (first | refine blk_drewN ?_ _ | refine blk_drew ?_ | refine blk_alloc ?_ _)); exact BKAe.out⟩, ⟨by (with_reducible repeat (first | refine blk_drewN ?_ _ | refine blk_drew ?_ | refine blk_alloc ?_ _)); exact BKAf.out⟩, ⟨by (with_reducible repeat (first | refine blk_drewN ?_ _ | refine blk_drew ?_ | refine blk_alloc ?_ _)); exact BKAb.out⟩, ⟨by repeat (first | (with_reducible first | exact HB.out | apply below_alloc | apply pw_below_drewN | apply below_drew1 | refine below_set ?_ GEAe.out | refine below_set ?_ GEAf.out | refine below_set ?_ GEAb.out) | exact HB.out)⟩⟩
 case round =>
  clear H'
  try clear c1
  try clear c2
  try clear p2
  try clear c3
  try clear c5
  try clear p6
  try clear c21
  try clear c24
  try clear c28
  try clear c31
  try clear c32
  try clear c33
  try clear c34
  try clear p64
  obtain ⟨x21_1, rfl, HA, HK1, HO_20, HO_Ai005, BKAe, BKAf, BKAb, HB⟩ := hrel
  cases gk with
  | zero => exact absurd HA.out (by simp [plaitinglaw5_FrameReads.l0])
  | succ k1 =>
   have H := HA.out
   clear HA
   simp only [plaitinglaw5_FrameReads.l0] at H
   by_cases c66 : x21_1 < (yAx.length : Int)
   rotate_left
   ·
    rw [if_neg c66] at H
    have c66b0 : decide (x21_1 < (yAx.length : Int)) = false := decide_eq_false c66
    clear c66
    obtain rfl := Option.some.inj H
    obtain ⟨Ao107, co107, eo107⟩ := Kd.R_slice HO_20.out
    subst eo107
    go_wp2
    go_ret
    exact ⟨by first | rfl | (simp [errW_none, errW_some] <;> rfl) | (simp only [← hji18]; first | rfl | (simp [errW_none, errW_some] <;> rfl)) | (simp [*, errW_none, errW_some] <;> rfl), by repeat (first | (with_reducible first | exact HB.out | apply below_alloc | apply pw_below_drewN | apply below_drew1 | refine below_set ?_ GEAe.out | refine below_set ?_ GEAf.out | refine below_set ?_ GEAb.out) | exact HB.out)⟩
   rw [if_pos c66] at H
   have c66b0 : decide (x21_1 < (yAx.length : Int)) = true := decide_eq_true c66
   clear c66
   by_cases c67 : 0 ≤ x21_1
   rotate_left
   ·
    rw [if_neg c67] at H
    exact absurd H (by simp)
   rw [if_pos c67] at H
   have c67b0 : decide (0 ≤ x21_1) = true := decide_eq_true c67
   clear c67
   replace H := Option.bind_eq_some_iff.mp H
   obtain ⟨⟨tBb, tBh, tBj, tBk, tBn, tBg, tBy⟩, A680, H⟩ := H
   replace H : ((plaitingref5_Read.f k1 tAh tAp tAq tAr tAs tAk (rdOf ByteArray.empty yAx x21_1)).bind fun btBe => (if tBy = btBe.2.2.2.2.2.2 then ((plaitingref5_Same.f k1 tBb tBh tBj tBk tBn tBg btBe.1 btBe.2.1 btBe.2.2.1 btBe.2.2.2.1 btBe.2.2.2.2.1 btBe.2.2.2.2.2.1).bind fun tCb => (if tCb = true then (plaitinglaw5_FrameReads.l0 k1 yAx (wrap64 (x21_1 + 1)) tAh tAp tAq tAr tAs tAk) else (some false))) else (some false))) = some r := H
   have A68 := Aside0.mk A680
   clear A680
   replace H := Option.bind_eq_some_iff.mp H
   obtain ⟨⟨tBe, tBr, tBs, tBt, tBv, tBw, tCa⟩, A690, H⟩ := H
   replace H : (if tBy = tCa then ((plaitingref5_Same.f k1 tBb tBh tBj tBk tBn tBg tBe tBr tBs tBt tBv tBw).bind fun tCb => (if tCb = true then (plaitinglaw5_FrameReads.l0 k1 yAx (wrap64 (x21_1 + 1)) tAh tAp tAq tAr tAs tAk) else (some false))) else (some false)) = some r := H
   have A69 := Aside0.mk A690
   clear A690
   by_cases c70 : tBy = tCa
   rotate_left
   ·
    rw [if_neg c70] at H
    have c70b0 : (tBy == tCa) = false := beq_eq_false_iff_ne.mpr c70
    have c70b1 : (tBy != tCa) = true := bne_iff_ne.mpr c70
    exact absurd ((Option.some.inj H).trans HRT.out) (by decide)
   rw [if_pos c70] at H
   have c70b0 : (tBy == tCa) = true := beq_iff_eq.mpr c70
   have c70b1 : (tBy != tCa) = false := bne_eq_false_iff_eq.mpr c70
   clear c70
   replace H := Option.bind_eq_some_iff.mp H
   obtain ⟨tCb, A710, H⟩ := H
   replace H : (if tCb = true then (plaitinglaw5_FrameReads.l0 k1 yAx (wrap64 (x21_1 + 1)) tAh tAp tAq tAr tAs tAk) else (some false)) = some r := H
   have A71 := Aside0.mk A710
   clear A710
   by_cases c72 : tCb = true
   rotate_left
   ·
    replace c72 := Bool.eq_false_iff.mpr c72
    subst c72
    have H1 : (some false) = some r := by rw [if_neg (show ¬ (false = true) by decide)] at H; exact H
    clear H
    have H := H1
    clear H1
    exact absurd ((Option.some.inj H).trans HRT.out) (by decide)
   subst c72
   have H1 : (plaitinglaw5_FrameReads.l0 k1 yAx (wrap64 (x21_1 + 1)) tAh tAp tAq tAr tAs tAk) = some r := by rw [if_pos rfl] at H; exact H
   clear H
   have H := H1
   clear H1
   have H' := Aside0.mk H
   clear H
   obtain ⟨Ao73, co73, eo73⟩ := Kd.R_slice HO_20.out
   subst eo73
   try go_wp2
   replace HO_20 := Aside0.mk (Kd.R_drew HO_20.out)
   replace HO_Ai005 := Aside0.mk (Kd.R_drew HO_Ai005.out)
   replace BKAe := Aside0.mk (blk_drew BKAe.out)
   replace BKAf := Aside0.mk (blk_drew BKAf.out)
   replace BKAb := Aside0.mk (blk_drew BKAb.out)
   replace HB := Aside0.mk (below_drew1 HB.out)
   have pBp : 0 ≤ (x21_1 : Int) := of_decide_eq_true (by first | (with_reducible assumption) | assumption)
   have qBp : x21_1 < (yAx.length : Int) := of_decide_eq_true (by first | (with_reducible assumption) | assumption)
   obtain ⟨adBp, eBp, hxBp_0⟩ := Kd.at_string (Kd.R_reads' HO_20.out).2.2 x21_1 pBp qBp
   cases eBp
   replace pBp := eq_true pBp
   replace qBp := eq_true qBp
   refine start_ (n := 12) (S := fun w' => w'.cell? ⟨gbAb, 0, none⟩ = some (.int .i64 tAh) ∧ w'.cell? ⟨gbAb, 1, none⟩ = some (.int .i64 tAp) ∧ w'.cell? ⟨gbAb, 2, none⟩ = some (.int .i64 tAq) ∧ w'.cell? ⟨gbAb, 3, none⟩ = some (.int .i64 tAr) ∧ w'.cell? ⟨gbAb, 4, none⟩ = some (.int .i64 tAs) ∧ w'.cell? ⟨gbAb, 5, none⟩ = some (.slice Ao56 tAk.length co56) ∧ w'.cell? (adBp.add (x21_1).toNat) = some (.string (rdOf ByteArray.empty yAx x21_1))) (ds := []) #[false, false, false, false, false, false, false, false, false, false, false, false] (by kernel_rfl) rfl rfl ⟨(blk_cell BKAb.out 0).trans rfl, (blk_cell BKAb.out 1).trans rfl, (blk_cell BKAb.out 2).trans rfl, (blk_cell BKAb.out 3).trans rfl, (blk_cell BKAb.out 4).trans rfl, (blk_cell BKAb.out 5).trans rfl, hxBp_0⟩ (fun hHeld => ?_); refine with_tabW plaitinglaw5_FrameReads.tab14 plaitinglaw5_FrameReads.bits14 (fun HT_ HW_ => ?_)
   generalize wr.drew = w74 at HO_20 HO_Ai005 BKAe BKAf BKAb HB hxBp_0 hHeld ⊢
   refine pq_ 1 109 HT_ ?_
   refine pq_ 2 110 HT_ ?_
   refine pq_ 3 111 HT_ ?_
   refine tq_ 0 108 HT_ HW_ hHeld ?_
   refine tq_ 4 112 HT_ HW_ hHeld ?_
   refine join_ (σ := Value × Nat) 2 #[true, true, true, true, true, true, true, true, true, true, false, false] (fun s_ => [(113, .tuple #[.agg #[.int .i64 tBb, .int .i64 tBh, .int .i64 tBj, .int .i64 tBk, .int .i64 tBn, s_.1], .int .i64 tBy]), (22, .pointer (some ⟨s_.2, 0, none⟩)), (107, .tuple #[.agg #[.int .i64 tBb, .int .i64 tBh, .int .i64 tBj, .int .i64 tBk, .int .i64 tBn, s_.1], .int .i64 tBy]), (114, .agg #[.int .i64 tBb, .int .i64 tBh, .int .i64 tBj, .int .i64 tBk, .int .i64 tBn, s_.1]), (115, .int .i64 tBy)]) (fun s_ w' => (w'.cell? ⟨gbAb, 0, none⟩ = some (.int .i64 tAh) ∧ w'.cell? ⟨gbAb, 1, none⟩ = some (.int .i64 tAp) ∧ w'.cell? ⟨gbAb, 2, none⟩ = some (.int .i64 tAq) ∧ w'.cell? ⟨gbAb, 3, none⟩ = some (.int .i64 tAr) ∧ w'.cell? ⟨gbAb, 4, none⟩ = some (.int .i64 tAs) ∧ w'.cell? ⟨gbAb, 5, none⟩ = some (.slice Ao56 tAk.length co56) ∧ w'.cell? (adBp.add (x21_1).toNat) = some (.string (rdOf ByteArray.empty yAx x21_1))) ∧ (Kd.R k26 26 w' w.heap.size (fun _ => True) s_.1 tBg) ∧ (Kd.R (Kd.int .i64) 3 w' w.heap.size (fun _ => True) (.slice Ao56 tAk.length co56) tAk) ∧ (Kd.R Kd.string 9 w' w.heap.size (fun _ => True) (.slice (some adBp) yAx.length co73) yAx) ∧ (w'.heap[gbAe]? = some (.cells #[.int .i64 a0_0, .int .i64 a0_1, .int .i64 a0_2, .int .i64 a0_3, .int .i64 a0_4, .slice A0_5 l0_5.length c0_5] 24 (0, 0))) ∧ (w'.heap[gbAf]? = some (.cells #[.int .i64 a1_0, .int .i64 a1_1, .int .i64 a1_2, .int .i64 a1_3, .int .i64 a1_4, .slice A1_5 l1_5.length c1_5] 29 (0, 0))) ∧ (w'.heap[gbAb]? = some (.cells #[.int .i64 tAh, .int .i64 tAp, .int .i64 tAq, .int .i64 tAr, .int .i64 tAs, .slice Ao56 tAk.length co56] 24 (0, 0))) ∧ (w'.heap[s_.2]? = some (.cells #[.int .i64 0, .int .i64 0, .int .i64 0, .int .i64 0, .int .i64 0, .slice none 0 0] 29 (0, 0))) ∧ (w.heap.size ≤ s_.2) ∧ (w.heap.size ≤ s_.2) ∧ (gbAe ≠ s_.2) ∧ (s_.2 ≠ gbAe) ∧ (gbAf ≠ s_.2) ∧ (s_.2 ≠ gbAf) ∧ (gbAb ≠ s_.2) ∧ (s_.2 ≠ gbAb) ∧ (Below w.heap.size w w')) ?_ ?_
   rotate_left
   ·
    intro hCont
    refine two_ (i := 5) (j := 9) (Ni := some 113) (Nj := some 22) #[true, true, true, true, true, true, false, false, false, false, false, false] #[true, true, true, true, true, false, false, false, false, true, false, false] rfl rfl rfl rfl (two_of HT_.out (by kernel_rfl)) (by decide) (by decide) (fun K hK => ?_) (fun K hK => ?_)
    ·
     skip
     refine goes_ Try.func35 (by kernel_rfl) rfl #[.agg #[.int .i64 tAh, .int .i64 tAp, .int .i64 tAq, .int .i64 tAr, .int .i64 tAs, .slice Ao56 tAk.length co56], .string (rdOf ByteArray.empty yAx x21_1)] (by rfl) rfl rfl (by (try simp only [List.map_toArray, List.map_cons, List.map_nil]); first | done | rfl | (simp only [List.length_drop, List.length_take]; rfl)) ?_
     with_reducible refine (frame_Read.calls tAh tAp tAq tAr tAs _ _ tAk (rdOf ByteArray.empty yAx x21_1) tBb tBh tBj tBk tBn tBg tBy _ ?side1 ?side2 A68.out).mono ?_
     (case side1 => repeat (first | exact (Kd.R_reads' HO_Ai005.out).2.2 | (with_reducible refine Kd.C_alloc ?_ _) | (with_reducible refine Kd.C_drewN ?_ _) | (with_reducible refine Kd.C_drew ?_)))
     (case side2 => exact (Kd.R_reads' HO_Ai005.out).2.1)
     rintro e w75 ⟨vCf, rfl, ho0, hb⟩
     have HS6_ := (hb.cell (World.block_lt_of_cell? _ _ (hHeld.2.2.2.2.2.2))).trans (hHeld.2.2.2.2.2.2)
     refine ⟨_, rfl, ?_⟩
     have HOBd := Aside0.mk (Kd.R_lower ho0 (below_size (pH_ HB.out)))
     replace HO_20 := Aside0.mk (Kd.R_below (pR_ HO_20.out) hb)
     replace HO_Ai005 := Aside0.mk (Kd.R_below (pR_ HO_Ai005.out) hb)
     replace BKAe := Aside0.mk (blk_below (pB_ BKAe.out) hb)
     replace BKAf := Aside0.mk (blk_below (pB_ BKAf.out) hb)
     replace BKAb := Aside0.mk (blk_below (pB_ BKAb.out) hb)
     replace HB := Aside0.mk (below_step (pH_ HB.out) hb)
     (try clear hb)
     (try clear hb2)
     (try clear hk)
     (try clear hi)
     (try clear ho0)
     refine hK.out _ _ ⟨(blk_cell BKAb.out 0).trans rfl, (blk_cell BKAb.out 1).trans rfl, (blk_cell BKAb.out 2).trans rfl, (blk_cell BKAb.out 3).trans rfl, (blk_cell BKAb.out 4).trans rfl, (blk_cell BKAb.out 5).trans rfl, HS6_⟩ (fun hHeld => ?_)
     clear hK K
     refine norm_ (a' := ?_) ?_ ?_
     rotate_left
     ·
      show Act.put _ (some 113) _ = _
      simp only [Act.put, List.setIfInBounds_toArray, List.set_cons_zero, List.set_cons_succ, i64_w, i32_w]
      rfl
     refine pq_ 6 107 HT_ ?_
     refine pq_ 7 114 HT_ ?_
     refine pq_ 8 115 HT_ ?_
     refine one_ (i := 9) (N := some 22) #[true, true, true, true, true, true, true, true, true, true, false, false] rfl rfl (one_of HT_.out (by kernel_rfl)) (by decide) (fun K hK => ?_)
     refine box_step ?hg (N := 22) ?hd (cs := #[.int .i64 0, .int .i64 0, .int .i64 0, .int .i64 0, .int .i64 0, .slice none 0 0]) (t := 29) ?hr ?_; (case hd => rfl); (case hg => rfl); (case hr => first | (go_simp; done) | (go_simp; rfl))
     intro gbAc hg w76 hbox hb
     have HS6_ := (hb.cell (World.block_lt_of_cell? _ _ (hHeld.2.2.2.2.2.2))).trans (hHeld.2.2.2.2.2.2)
     have BKAc := Aside0.mk (hbox)
     have GWAc := Aside0.mk ((by rw [hg]; exact (below_size (pH_ HB.out)) : w.heap.size ≤ gbAc))
     have GEAc := Aside0.mk ((by rw [hg]; exact (below_size (pH_ HB.out)) : w.heap.size ≤ gbAc))
     have NBAe_Ac := Aside0.mk (ltB_ hg BKAe.out)
     have NBAc_Ae := Aside0.mk (ltB_ hg BKAe.out).symm
     have NBAf_Ac := Aside0.mk (ltB_ hg BKAf.out)
     have NBAc_Af := Aside0.mk (ltB_ hg BKAf.out).symm
     have NBAb_Ac := Aside0.mk (ltB_ hg BKAb.out)
     have NBAc_Ab := Aside0.mk (ltB_ hg BKAb.out).symm
     replace HO_20 := Aside0.mk (Kd.R_below (pR_ HO_20.out) hb)
     replace HO_Ai005 := Aside0.mk (Kd.R_below (pR_ HO_Ai005.out) hb)
     replace HOBd := Aside0.mk (Kd.R_below (pR_ HOBd.out) hb)
     replace BKAe := Aside0.mk (blk_below (pB_ BKAe.out) hb)
     replace BKAf := Aside0.mk (blk_below (pB_ BKAf.out) hb)
     replace BKAb := Aside0.mk (blk_below (pB_ BKAb.out) hb)
     replace HB := Aside0.mk (below_step (pH_ HB.out) hb)
     clear hb hbox hg
     refine hK.out _ _ ⟨(blk_cell BKAb.out 0).trans rfl, (blk_cell BKAb.out 1).trans rfl, (blk_cell BKAb.out 2).trans rfl, (blk_cell BKAb.out 3).trans rfl, (blk_cell BKAb.out 4).trans rfl, (blk_cell BKAb.out 5).trans rfl, HS6_⟩ (fun hHeld => ?_)
     clear hK K
     refine norm_ (a' := ?_) ?_ ?_
     rotate_left
     ·
      show Act.put _ (some 22) _ = _
      simp only [Act.put, List.setIfInBounds_toArray, List.set_cons_zero, List.set_cons_succ, i64_w, i32_w]
      rfl
     exact norm_ (by simp only [putAll, Act.put, List.setIfInBounds_toArray, List.set_cons_zero, List.set_cons_succ]) (hCont (vCf, gbAc) _ ⟨hHeld, (pR_ HOBd.out), (pR_ HO_Ai005.out), (pR_ HO_20.out), (pB_ BKAe.out), (pB_ BKAf.out), (pB_ BKAb.out), (pB_ BKAc.out), GWAc.out, GEAc.out, NBAe_Ac.out, NBAc_Ae.out, NBAf_Ac.out, NBAc_Af.out, NBAb_Ac.out, NBAc_Ab.out, (pH_ HB.out)⟩)
    skip
    refine box_step ?hg (N := 22) ?hd (cs := #[.int .i64 0, .int .i64 0, .int .i64 0, .int .i64 0, .int .i64 0, .slice none 0 0]) (t := 29) ?hr ?_; (case hd => rfl); (case hg => rfl); (case hr => first | (go_simp; done) | (go_simp; rfl))
    intro gbAc hg w75 hbox hb
    have HS6_ := (hb.cell (World.block_lt_of_cell? _ _ (hHeld.2.2.2.2.2.2))).trans (hHeld.2.2.2.2.2.2)
    have BKAc := Aside0.mk (hbox)
    have GWAc := Aside0.mk ((by rw [hg]; exact (below_size (pH_ HB.out)) : w.heap.size ≤ gbAc))
    have GEAc := Aside0.mk ((by rw [hg]; exact (below_size (pH_ HB.out)) : w.heap.size ≤ gbAc))
    have NBAe_Ac := Aside0.mk (ltB_ hg BKAe.out)
    have NBAc_Ae := Aside0.mk (ltB_ hg BKAe.out).symm
    have NBAf_Ac := Aside0.mk (ltB_ hg BKAf.out)
    have NBAc_Af := Aside0.mk (ltB_ hg BKAf.out).symm
    have NBAb_Ac := Aside0.mk (ltB_ hg BKAb.out)
    have NBAc_Ab := Aside0.mk (ltB_ hg BKAb.out).symm
    replace HO_20 := Aside0.mk (Kd.R_below (pR_ HO_20.out) hb)
    replace HO_Ai005 := Aside0.mk (Kd.R_below (pR_ HO_Ai005.out) hb)
    replace BKAe := Aside0.mk (blk_below (pB_ BKAe.out) hb)
    replace BKAf := Aside0.mk (blk_below (pB_ BKAf.out) hb)
    replace BKAb := Aside0.mk (blk_below (pB_ BKAb.out) hb)
    replace HB := Aside0.mk (below_step (pH_ HB.out) hb)
    clear hb hbox hg
    refine hK.out _ _ ⟨(blk_cell BKAb.out 0).trans rfl, (blk_cell BKAb.out 1).trans rfl, (blk_cell BKAb.out 2).trans rfl, (blk_cell BKAb.out 3).trans rfl, (blk_cell BKAb.out 4).trans rfl, (blk_cell BKAb.out 5).trans rfl, HS6_⟩ (fun hHeld => ?_)
    clear hK K
    refine norm_ (a' := ?_) ?_ ?_
    rotate_left
    ·
     show Act.put _ (some 22) _ = _
     simp only [Act.put, List.setIfInBounds_toArray, List.set_cons_zero, List.set_cons_succ, i64_w, i32_w]
     rfl
    refine one_ (i := 5) (N := some 113) #[true, true, true, true, true, true, false, false, false, true, false, false] rfl rfl (one_of HT_.out (by kernel_rfl)) (by decide) (fun K hK => ?_)
    refine goes_ Try.func35 (by kernel_rfl) rfl #[.agg #[.int .i64 tAh, .int .i64 tAp, .int .i64 tAq, .int .i64 tAr, .int .i64 tAs, .slice Ao56 tAk.length co56], .string (rdOf ByteArray.empty yAx x21_1)] (by rfl) rfl rfl (by (try simp only [List.map_toArray, List.map_cons, List.map_nil]); first | done | rfl | (simp only [List.length_drop, List.length_take]; rfl)) ?_
    with_reducible refine (frame_Read.calls tAh tAp tAq tAr tAs _ _ tAk (rdOf ByteArray.empty yAx x21_1) tBb tBh tBj tBk tBn tBg tBy _ ?side1 ?side2 A68.out).mono ?_
    (case side1 => repeat (first | exact (Kd.R_reads' HO_Ai005.out).2.2 | (with_reducible refine Kd.C_alloc ?_ _) | (with_reducible refine Kd.C_drewN ?_ _) | (with_reducible refine Kd.C_drew ?_)))
    (case side2 => exact (Kd.R_reads' HO_Ai005.out).2.1)
    rintro e w76 ⟨vCf, rfl, ho0, hb⟩
    have HS6_ := (hb.cell (World.block_lt_of_cell? _ _ (hHeld.2.2.2.2.2.2))).trans (hHeld.2.2.2.2.2.2)
    refine ⟨_, rfl, ?_⟩
    have HOBd := Aside0.mk (Kd.R_lower ho0 (below_size (pH_ HB.out)))
    replace HO_20 := Aside0.mk (Kd.R_below (pR_ HO_20.out) hb)
    replace HO_Ai005 := Aside0.mk (Kd.R_below (pR_ HO_Ai005.out) hb)
    replace BKAe := Aside0.mk (blk_below (pB_ BKAe.out) hb)
    replace BKAf := Aside0.mk (blk_below (pB_ BKAf.out) hb)
    replace BKAb := Aside0.mk (blk_below (pB_ BKAb.out) hb)
    replace BKAc := Aside0.mk (blk_below (pB_ BKAc.out) hb)
    replace HB := Aside0.mk (below_step (pH_ HB.out) hb)
    (try clear hb)
    (try clear hb2)
    (try clear hk)
    (try clear hi)
    (try clear ho0)
    refine hK.out _ _ ⟨(blk_cell BKAb.out 0).trans rfl, (blk_cell BKAb.out 1).trans rfl, (blk_cell BKAb.out 2).trans rfl, (blk_cell BKAb.out 3).trans rfl, (blk_cell BKAb.out 4).trans rfl, (blk_cell BKAb.out 5).trans rfl, HS6_⟩ (fun hHeld => ?_)
    clear hK K
    refine norm_ (a' := ?_) ?_ ?_
    rotate_left
    ·
     show Act.put _ (some 113) _ = _
     simp only [Act.put, List.setIfInBounds_toArray, List.set_cons_zero, List.set_cons_succ, i64_w, i32_w]
     rfl
    refine pq_ 6 107 HT_ ?_
    refine pq_ 7 114 HT_ ?_
    refine pq_ 8 115 HT_ ?_
    exact norm_ (by simp only [putAll, Act.put, List.setIfInBounds_toArray, List.set_cons_zero, List.set_cons_succ]) (hCont (vCf, gbAc) _ ⟨hHeld, (pR_ HOBd.out), (pR_ HO_Ai005.out), (pR_ HO_20.out), (pB_ BKAe.out), (pB_ BKAf.out), (pB_ BKAb.out), (pB_ BKAc.out), GWAc.out, GEAc.out, NBAe_Ac.out, NBAc_Ae.out, NBAf_Ac.out, NBAc_Af.out, NBAb_Ac.out, NBAc_Ab.out, (pH_ HB.out)⟩)
   rintro ⟨vCf, gbAc⟩ w77 ⟨hS_, h0_, h1_, h2_, h3_, h4_, h5_, h6_, h7_, h8_, h9_, h10_, h11_, h12_, h13_, h14_, h15_⟩
   have n0_ : Aside0 (Kd.R k26 26 w77 w.heap.size (fun _ => True) vCf tBg) := ⟨h0_⟩
   have n1_ : Aside0 (Kd.R (Kd.int .i64) 3 w77 w.heap.size (fun _ => True) (.slice Ao56 tAk.length co56) tAk) := ⟨h1_⟩
   have n2_ : Aside0 (Kd.R Kd.string 9 w77 w.heap.size (fun _ => True) (.slice (some adBp) yAx.length co73) yAx) := ⟨h2_⟩
   have n3_ : Aside0 (w77.heap[gbAe]? = some (.cells #[.int .i64 a0_0, .int .i64 a0_1, .int .i64 a0_2, .int .i64 a0_3, .int .i64 a0_4, .slice A0_5 l0_5.length c0_5] 24 (0, 0))) := ⟨h3_⟩
   have n4_ : Aside0 (w77.heap[gbAf]? = some (.cells #[.int .i64 a1_0, .int .i64 a1_1, .int .i64 a1_2, .int .i64 a1_3, .int .i64 a1_4, .slice A1_5 l1_5.length c1_5] 29 (0, 0))) := ⟨h4_⟩
   have n5_ : Aside0 (w77.heap[gbAb]? = some (.cells #[.int .i64 tAh, .int .i64 tAp, .int .i64 tAq, .int .i64 tAr, .int .i64 tAs, .slice Ao56 tAk.length co56] 24 (0, 0))) := ⟨h5_⟩
   have n6_ : Aside0 (w77.heap[gbAc]? = some (.cells #[.int .i64 0, .int .i64 0, .int .i64 0, .int .i64 0, .int .i64 0, .slice none 0 0] 29 (0, 0))) := ⟨h6_⟩
   have n7_ : Aside0 (w.heap.size ≤ gbAc) := ⟨h7_⟩
   have n8_ : Aside0 (w.heap.size ≤ gbAc) := ⟨h8_⟩
   have n9_ : Aside0 (gbAe ≠ gbAc) := ⟨h9_⟩
   have n10_ : Aside0 (gbAc ≠ gbAe) := ⟨h10_⟩
   have n11_ : Aside0 (gbAf ≠ gbAc) := ⟨h11_⟩
   have n12_ : Aside0 (gbAc ≠ gbAf) := ⟨h12_⟩
   have n13_ : Aside0 (gbAb ≠ gbAc) := ⟨h13_⟩
   have n14_ : Aside0 (gbAc ≠ gbAb) := ⟨h14_⟩
   have n15_ : Aside0 (Below w.heap.size w w77) := ⟨h15_⟩
   clear HO_20
   clear HO_Ai005
   clear BKAe
   clear BKAf
   clear BKAb
   clear HB
   clear h0_ h1_ h2_ h3_ h4_ h5_ h6_ h7_ h8_ h9_ h10_ h11_ h12_ h13_ h14_ h15_
   have HOBd := n0_
   have HO_Ai005 := n1_
   have HO_20 := n2_
   have BKAe := n3_
   have BKAf := n4_
   have BKAb := n5_
   have BKAc := n6_
   have GWAc := n7_
   have GEAc := n8_
   have NBAe_Ac := n9_
   have NBAc_Ae := n10_
   have NBAf_Ac := n11_
   have NBAc_Af := n12_
   have NBAb_Ac := n13_
   have NBAc_Ab := n14_
   have HB := n15_
   clear n0_ n1_ n2_ n3_ n4_ n5_ n6_ n7_ n8_ n9_ n10_ n11_ n12_ n13_ n14_ n15_
   have hHeld : w77.cell? ⟨gbAb, 0, none⟩ = some (.int .i64 tAh) ∧ w77.cell? ⟨gbAb, 1, none⟩ = some (.int .i64 tAp) ∧ w77.cell? ⟨gbAb, 2, none⟩ = some (.int .i64 tAq) ∧ w77.cell? ⟨gbAb, 3, none⟩ = some (.int .i64 tAr) ∧ w77.cell? ⟨gbAb, 4, none⟩ = some (.int .i64 tAs) ∧ w77.cell? ⟨gbAb, 5, none⟩ = some (.slice Ao56 tAk.length co56) ∧ w77.cell? (adBp.add (x21_1).toNat) = some (.string (rdOf ByteArray.empty yAx x21_1)) := hS_
   obtain ⟨Ao83, co83, eo83⟩ := Kd.R_slice HOBd.out
   (first | subst eo83 | (injection eo83 with f1_ f2_ f3_; have f4_ := f1_.symm; have f5_ := f3_.symm; clear f1_ f2_ f3_; subst f4_; subst f5_))
   refine norm_ (a' := ?_) ?_ ?_
   rotate_left
   ·
    simp only [putAll, Act.put, List.setIfInBounds_toArray, List.set_cons_zero, List.set_cons_succ]
    rfl
   refine one_ (i := 10) (N := none) #[true, true, true, true, true, true, true, true, true, true, true, false] rfl rfl (one_of HT_.out (by kernel_rfl)) (by decide) (fun K hK => ?_)
   have hs78 : w77.cell? ⟨gbAc, 0, none⟩ = some (.int .i64 0) := (blk_cell BKAc.out 0).trans rfl
   have hfs78 := blk_frozen BKAc.out 0
   have hns78_0 := NBAe_Ac.out
   have hns78_1 := NBAf_Ac.out
   have hns78_2 := NBAb_Ac.out
   have hms78_0 := NBAc_Ae.out
   have hms78_1 := NBAc_Af.out
   have hms78_2 := NBAc_Ab.out
   have hs79 : w77.cell? ⟨gbAc, 1, none⟩ = some (.int .i64 0) := (blk_cell BKAc.out 1).trans rfl
   have hfs79 := blk_frozen BKAc.out 1
   have hns79_0 := NBAe_Ac.out
   have hns79_1 := NBAf_Ac.out
   have hns79_2 := NBAb_Ac.out
   have hms79_0 := NBAc_Ae.out
   have hms79_1 := NBAc_Af.out
   have hms79_2 := NBAc_Ab.out
   have hs80 : w77.cell? ⟨gbAc, 2, none⟩ = some (.int .i64 0) := (blk_cell BKAc.out 2).trans rfl
   have hfs80 := blk_frozen BKAc.out 2
   have hns80_0 := NBAe_Ac.out
   have hns80_1 := NBAf_Ac.out
   have hns80_2 := NBAb_Ac.out
   have hms80_0 := NBAc_Ae.out
   have hms80_1 := NBAc_Af.out
   have hms80_2 := NBAc_Ab.out
   have hs81 : w77.cell? ⟨gbAc, 3, none⟩ = some (.int .i64 0) := (blk_cell BKAc.out 3).trans rfl
   have hfs81 := blk_frozen BKAc.out 3
   have hns81_0 := NBAe_Ac.out
   have hns81_1 := NBAf_Ac.out
   have hns81_2 := NBAb_Ac.out
   have hms81_0 := NBAc_Ae.out
   have hms81_1 := NBAc_Af.out
   have hms81_2 := NBAc_Ab.out
   have hs82 : w77.cell? ⟨gbAc, 4, none⟩ = some (.int .i64 0) := (blk_cell BKAc.out 4).trans rfl
   have hfs82 := blk_frozen BKAc.out 4
   have hns82_0 := NBAe_Ac.out
   have hns82_1 := NBAf_Ac.out
   have hns82_2 := NBAb_Ac.out
   have hms82_0 := NBAc_Ae.out
   have hms82_1 := NBAc_Af.out
   have hms82_2 := NBAc_Ab.out
   have hs84 : w77.cell? ⟨gbAc, 5, none⟩ = some (.slice none 0 0) := (blk_cell BKAc.out 5).trans rfl
   have hfs84 := blk_frozen BKAc.out 5
   have hns84_0 := NBAe_Ac.out
   have hns84_1 := NBAf_Ac.out
   have hns84_2 := NBAb_Ac.out
   have hms84_0 := NBAc_Ae.out
   have hms84_1 := NBAc_Af.out
   have hms84_2 := NBAc_Ab.out
   refine skip_ (w1 := ?_) (by rfl) rfl ?_ ?_
   rotate_left
   ·
    go_simp
    rfl
   refine hK.out _ _ ⟨((cell_far (p := ⟨gbAc, _, none⟩) NBAb_Ac.out _).trans (((cell_far (p := ⟨gbAc, _, none⟩) NBAb_Ac.out _).trans (((cell_far (p := ⟨gbAc, _, none⟩) NBAb_Ac.out _).trans (((cell_far (p := ⟨gbAc, _, none⟩) NBAb_Ac.out _).trans (((cell_far (p := ⟨gbAc, _, none⟩) NBAb_Ac.out _).trans (((cell_far (p := ⟨gbAc, _, none⟩) NBAb_Ac.out _).trans (hHeld.1)))))))))))), ((cell_far (p := ⟨gbAc, _, none⟩) NBAb_Ac.out _).trans (((cell_far (p := ⟨gbAc, _, none⟩) NBAb_Ac.out _).trans (((cell_far (p := ⟨gbAc, _, none⟩) NBAb_Ac.out _).trans (((cell_far (p := ⟨gbAc, _, none⟩) NBAb_Ac.out _).trans (((cell_far (p := ⟨gbAc, _, none⟩) NBAb_Ac.out _).trans (((cell_far (p := ⟨gbAc, _, none⟩) NBAb_Ac.out _).trans (hHeld.2.1)))))))))))), ((cell_far (p := ⟨gbAc, _, none⟩) NBAb_Ac.out _).trans (((cell_far (p := ⟨gbAc, _, none⟩) NBAb_Ac.out _).trans (((cell_far (p := ⟨gbAc, _, none⟩) NBAb_Ac.out _).trans (((cell_far (p := ⟨gbAc, _, none⟩) NBAb_Ac.out _).trans (((cell_far (p := ⟨gbAc, _, none⟩) NBAb_Ac.out _).trans (((cell_far (p := ⟨gbAc, _, none⟩) NBAb_Ac.out _).trans (hHeld.2.2.1)))))))))))), ((cell_far (p := ⟨gbAc, _, none⟩) NBAb_Ac.out _).trans (((cell_far (p := ⟨gbAc, _, none⟩) NBAb_Ac.out _).trans (((cell_far (p := ⟨gbAc, _, none⟩) NBAb_Ac.out _).trans (((cell_far (p := ⟨gbAc, _, none⟩) NBAb_Ac.out _).trans (((cell_far (p := ⟨gbAc, _, none⟩) NBAb_Ac.out _).trans (((cell_far (p := ⟨gbAc, _, none⟩) NBAb_Ac.out _).trans (hHeld.2.2.2.1)))))))))))), ((cell_far (p := ⟨gbAc, _, none⟩) NBAb_Ac.out _).trans (((cell_far (p := ⟨gbAc, _, none⟩) NBAb_Ac.out _).trans (((cell_far (p := ⟨gbAc, _, none⟩) NBAb_Ac.out _).trans (((cell_far (p := ⟨gbAc, _, none⟩) NBAb_Ac.out _).trans (((cell_far (p := ⟨gbAc, _, none⟩) NBAb_Ac.out _).trans (((cell_far (p := ⟨gbAc, _, none⟩) NBAb_Ac.out _).trans (hHeld.2.2.2.2.1)))))))))))), ((cell_far (p := ⟨gbAc, _, none⟩) NBAb_Ac.out _).trans (((cell_far (p := ⟨gbAc, _, none⟩) NBAb_Ac.out _).trans (((cell_far (p := ⟨gbAc, _, none⟩) NBAb_Ac.out _).trans (((cell_far (p := ⟨gbAc, _, none⟩) NBAb_Ac.out _).trans (((cell_far (p := ⟨gbAc, _, none⟩) NBAb_Ac.out _).trans (((cell_far (p := ⟨gbAc, _, none⟩) NBAb_Ac.out _).trans (hHeld.2.2.2.2.2.1)))))))))))), ((cell_far (p := ⟨gbAc, _, none⟩) (by first | exact Kd.own_blk (Kd.R_ne HO_20.out BKAc.out (by decide)) | (rw [add_block]; exact Kd.own_blk (Kd.R_ne HO_20.out BKAc.out (by decide))) | (show (Addr.add _ _).block ≠ _; rw [add_block]; exact Kd.own_blk (Kd.R_ne HO_20.out BKAc.out (by decide))) | (dsimp only; exact Kd.own_blk (Kd.R_ne HO_20.out BKAc.out (by decide)))) _).trans (((cell_far (p := ⟨gbAc, _, none⟩) (by first | exact Kd.own_blk (Kd.R_ne HO_20.out BKAc.out (by decide)) | (rw [add_block]; exact Kd.own_blk (Kd.R_ne HO_20.out BKAc.out (by decide))) | (show (Addr.add _ _).block ≠ _; rw [add_block]; exact Kd.own_blk (Kd.R_ne HO_20.out BKAc.out (by decide))) | (dsimp only; exact Kd.own_blk (Kd.R_ne HO_20.out BKAc.out (by decide)))) _).trans (((cell_far (p := ⟨gbAc, _, none⟩) (by first | exact Kd.own_blk (Kd.R_ne HO_20.out BKAc.out (by decide)) | (rw [add_block]; exact Kd.own_blk (Kd.R_ne HO_20.out BKAc.out (by decide))) | (show (Addr.add _ _).block ≠ _; rw [add_block]; exact Kd.own_blk (Kd.R_ne HO_20.out BKAc.out (by decide))) | (dsimp only; exact Kd.own_blk (Kd.R_ne HO_20.out BKAc.out (by decide)))) _).trans (((cell_far (p := ⟨gbAc, _, none⟩) (by first | exact Kd.own_blk (Kd.R_ne HO_20.out BKAc.out (by decide)) | (rw [add_block]; exact Kd.own_blk (Kd.R_ne HO_20.out BKAc.out (by decide))) | (show (Addr.add _ _).block ≠ _; rw [add_block]; exact Kd.own_blk (Kd.R_ne HO_20.out BKAc.out (by decide))) | (dsimp only; exact Kd.own_blk (Kd.R_ne HO_20.out BKAc.out (by decide)))) _).trans (((cell_far (p := ⟨gbAc, _, none⟩) (by first | exact Kd.own_blk (Kd.R_ne HO_20.out BKAc.out (by decide)) | (rw [add_block]; exact Kd.own_blk (Kd.R_ne HO_20.out BKAc.out (by decide))) | (show (Addr.add _ _).block ≠ _; rw [add_block]; exact Kd.own_blk (Kd.R_ne HO_20.out BKAc.out (by decide))) | (dsimp only; exact Kd.own_blk (Kd.R_ne HO_20.out BKAc.out (by decide)))) _).trans (((cell_far (p := ⟨gbAc, _, none⟩) (by first | exact Kd.own_blk (Kd.R_ne HO_20.out BKAc.out (by decide)) | (rw [add_block]; exact Kd.own_blk (Kd.R_ne HO_20.out BKAc.out (by decide))) | (show (Addr.add _ _).block ≠ _; rw [add_block]; exact Kd.own_blk (Kd.R_ne HO_20.out BKAc.out (by decide))) | (dsimp only; exact Kd.own_blk (Kd.R_ne HO_20.out BKAc.out (by decide)))) _).trans (hHeld.2.2.2.2.2.2))))))))))))⟩ (fun hHeld => ?_)
   clear hK K
   refine pq_ 11 23 HT_ ?_
   refine done_ (done_of HT_.out (by kernel_rfl)) ?_
   try go_wp2
   (try (rw [drewN_self w77]; generalize hq_ : World.drewN w77 _ = w77; have n0_ := Aside0.mk (Kd.R_at hq_ HO_20.out); have n1_ := Aside0.mk (Kd.R_at hq_ HO_Ai005.out); have n2_ := Aside0.mk (Kd.R_at hq_ HOBd.out); have n3_ := Aside0.mk (blk_at hq_ BKAe.out); have n4_ := Aside0.mk (blk_at hq_ BKAf.out); have n5_ := Aside0.mk (blk_at hq_ BKAb.out); have n6_ := Aside0.mk (blk_at hq_ BKAc.out); have n7_ := Aside0.mk (below_at hq_ HB.out); clear hq_ HO_20 HO_Ai005 HOBd BKAe BKAf BKAb BKAc HB; have HO_20 := n0_; have HO_Ai005 := n1_; have HOBd := n2_; have BKAe := n3_; have BKAf := n4_; have BKAb := n5_; have BKAc := n6_; have HB := n7_; clear n0_ n1_ n2_ n3_ n4_ n5_ n6_ n7_))
   have n0_ : Aside0 (Kd.R Kd.string 9 ((((((w77.setCell ⟨gbAc, 0, none⟩ (.int .i64 tBb)).setCell ⟨gbAc, 1, none⟩ (.int .i64 tBh)).setCell ⟨gbAc, 2, none⟩ (.int .i64 tBj)).setCell ⟨gbAc, 3, none⟩ (.int .i64 tBk)).setCell ⟨gbAc, 4, none⟩ (.int .i64 tBn)).setCell ⟨gbAc, 5, none⟩ (.slice Ao83 tBg.length co83)) w.heap.size (fun _ => True) (.slice (some adBp) yAx.length co73) yAx) := ⟨by (with_reducible repeat (first | apply Kd.R_alloc | apply Kd.R_drewN | apply Kd.R_drew)); exact Kd.R_mono (Kd.R_far (p := ⟨gbAc, 5, none⟩) (Kd.R_far (p := ⟨gbAc, 4, none⟩) (Kd.R_far (p := ⟨gbAc, 3, none⟩) (Kd.R_far (p := ⟨gbAc, 2, none⟩) (Kd.R_far (p := ⟨gbAc, 1, none⟩) (Kd.R_far (p := ⟨gbAc, 0, none⟩) (Kd.R_types HO_20.out BKAc.out (by decide)) (fun _ hk => hk.2) (.int .i64 tBb)) (fun _ hk => hk.2) (.int .i64 tBh)) (fun _ hk => hk.2) (.int .i64 tBj)) (fun _ hk => hk.2) (.int .i64 tBk)) (fun _ hk => hk.2) (.int .i64 tBn)) (fun _ hk => hk.2) (.slice Ao83 tBg.length co83)) (fun _ hk => trivial)⟩
   have n1_ : Aside0 (Kd.R (Kd.int .i64) 3 ((((((w77.setCell ⟨gbAc, 0, none⟩ (.int .i64 tBb)).setCell ⟨gbAc, 1, none⟩ (.int .i64 tBh)).setCell ⟨gbAc, 2, none⟩ (.int .i64 tBj)).setCell ⟨gbAc, 3, none⟩ (.int .i64 tBk)).setCell ⟨gbAc, 4, none⟩ (.int .i64 tBn)).setCell ⟨gbAc, 5, none⟩ (.slice Ao83 tBg.length co83)) w.heap.size (fun _ => True) (.slice Ao56 tAk.length co56) tAk) := ⟨by (with_reducible repeat (first | apply Kd.R_alloc | apply Kd.R_drewN | apply Kd.R_drew)); exact Kd.R_mono (Kd.R_far (p := ⟨gbAc, 5, none⟩) (Kd.R_far (p := ⟨gbAc, 4, none⟩) (Kd.R_far (p := ⟨gbAc, 3, none⟩) (Kd.R_far (p := ⟨gbAc, 2, none⟩) (Kd.R_far (p := ⟨gbAc, 1, none⟩) (Kd.R_far (p := ⟨gbAc, 0, none⟩) (Kd.R_types HO_Ai005.out BKAc.out (by decide)) (fun _ hk => hk.2) (.int .i64 tBb)) (fun _ hk => hk.2) (.int .i64 tBh)) (fun _ hk => hk.2) (.int .i64 tBj)) (fun _ hk => hk.2) (.int .i64 tBk)) (fun _ hk => hk.2) (.int .i64 tBn)) (fun _ hk => hk.2) (.slice Ao83 tBg.length co83)) (fun _ hk => trivial)⟩
   have n2_ : Aside0 (Kd.R k26 26 ((((((w77.setCell ⟨gbAc, 0, none⟩ (.int .i64 tBb)).setCell ⟨gbAc, 1, none⟩ (.int .i64 tBh)).setCell ⟨gbAc, 2, none⟩ (.int .i64 tBj)).setCell ⟨gbAc, 3, none⟩ (.int .i64 tBk)).setCell ⟨gbAc, 4, none⟩ (.int .i64 tBn)).setCell ⟨gbAc, 5, none⟩ (.slice Ao83 tBg.length co83)) w.heap.size (fun _ => True) (.slice Ao83 tBg.length co83) tBg) := ⟨by (with_reducible repeat (first | apply Kd.R_alloc | apply Kd.R_drewN | apply Kd.R_drew)); exact Kd.R_mono (Kd.R_far (p := ⟨gbAc, 5, none⟩) (Kd.R_far (p := ⟨gbAc, 4, none⟩) (Kd.R_far (p := ⟨gbAc, 3, none⟩) (Kd.R_far (p := ⟨gbAc, 2, none⟩) (Kd.R_far (p := ⟨gbAc, 1, none⟩) (Kd.R_far (p := ⟨gbAc, 0, none⟩) (Kd.R_types HOBd.out BKAc.out (by decide)) (fun _ hk => hk.2) (.int .i64 tBb)) (fun _ hk => hk.2) (.int .i64 tBh)) (fun _ hk => hk.2) (.int .i64 tBj)) (fun _ hk => hk.2) (.int .i64 tBk)) (fun _ hk => hk.2) (.int .i64 tBn)) (fun _ hk => hk.2) (.slice Ao83 tBg.length co83)) (fun _ hk => trivial)⟩
   have n3_ : Aside0 (((((((w77.setCell ⟨gbAc, 0, none⟩ (.int .i64 tBb)).setCell ⟨gbAc, 1, none⟩ (.int .i64 tBh)).setCell ⟨gbAc, 2, none⟩ (.int .i64 tBj)).setCell ⟨gbAc, 3, none⟩ (.int .i64 tBk)).setCell ⟨gbAc, 4, none⟩ (.int .i64 tBn)).setCell ⟨gbAc, 5, none⟩ (.slice Ao83 tBg.length co83)).heap[gbAe]? = some (.cells #[.int .i64 a0_0, .int .i64 a0_1, .int .i64 a0_2, .int .i64 a0_3, .int .i64 a0_4, .slice A0_5 l0_5.length c0_5] 24 (0, 0))) := ⟨by (with_reducible repeat (first | refine blk_drewN ?_ _ | refine blk_drew ?_ | refine blk_alloc ?_ _)); refine blk_far ?_ NBAe_Ac.out _; refine blk_far ?_ NBAe_Ac.out _; refine blk_far ?_ NBAe_Ac.out _; refine blk_far ?_ NBAe_Ac.out _; refine blk_far ?_ NBAe_Ac.out _; refine blk_far ?_ NBAe_Ac.out _; (with_reducible repeat (first | refine blk_drewN ?_ _ | refine blk_drew ?_ | refine blk_alloc ?_ _)); exact BKAe.out⟩
   have n4_ : Aside0 (((((((w77.setCell ⟨gbAc, 0, none⟩ (.int .i64 tBb)).setCell ⟨gbAc, 1, none⟩ (.int .i64 tBh)).setCell ⟨gbAc, 2, none⟩ (.int .i64 tBj)).setCell ⟨gbAc, 3, none⟩ (.int .i64 tBk)).setCell ⟨gbAc, 4, none⟩ (.int .i64 tBn)).setCell ⟨gbAc, 5, none⟩ (.slice Ao83 tBg.length co83)).heap[gbAf]? = some (.cells #[.int .i64 a1_0, .int .i64 a1_1, .int .i64 a1_2, .int .i64 a1_3, .int .i64 a1_4, .slice A1_5 l1_5.length c1_5] 29 (0, 0))) := ⟨by (with_reducible repeat (first | refine blk_drewN ?_ _ | refine blk_drew ?_ | refine blk_alloc ?_ _)); refine blk_far ?_ NBAf_Ac.out _; refine blk_far ?_ NBAf_Ac.out _; refine blk_far ?_ NBAf_Ac.out _; refine blk_far ?_ NBAf_Ac.out _; refine blk_far ?_ NBAf_Ac.out _; refine blk_far ?_ NBAf_Ac.out _; (with_reducible repeat (first | refine blk_drewN ?_ _ | refine blk_drew ?_ | refine blk_alloc ?_ _)); exact BKAf.out⟩
   have n5_ : Aside0 (((((((w77.setCell ⟨gbAc, 0, none⟩ (.int .i64 tBb)).setCell ⟨gbAc, 1, none⟩ (.int .i64 tBh)).setCell ⟨gbAc, 2, none⟩ (.int .i64 tBj)).setCell ⟨gbAc, 3, none⟩ (.int .i64 tBk)).setCell ⟨gbAc, 4, none⟩ (.int .i64 tBn)).setCell ⟨gbAc, 5, none⟩ (.slice Ao83 tBg.length co83)).heap[gbAb]? = some (.cells #[.int .i64 tAh, .int .i64 tAp, .int .i64 tAq, .int .i64 tAr, .int .i64 tAs, .slice Ao56 tAk.length co56] 24 (0, 0))) := ⟨by (with_reducible repeat (first | refine blk_drewN ?_ _ | refine blk_drew ?_ | refine blk_alloc ?_ _)); refine blk_far ?_ NBAb_Ac.out _; refine blk_far ?_ NBAb_Ac.out _; refine blk_far ?_ NBAb_Ac.out _; refine blk_far ?_ NBAb_Ac.out _; refine blk_far ?_ NBAb_Ac.out _; refine blk_far ?_ NBAb_Ac.out _; (with_reducible repeat (first | refine blk_drewN ?_ _ | refine blk_drew ?_ | refine blk_alloc ?_ _)); exact BKAb.out⟩
   have n6_ : Aside0 (((((((w77.setCell ⟨gbAc, 0, none⟩ (.int .i64 tBb)).setCell ⟨gbAc, 1, none⟩ (.int .i64 tBh)).setCell ⟨gbAc, 2, none⟩ (.int .i64 tBj)).setCell ⟨gbAc, 3, none⟩ (.int .i64 tBk)).setCell ⟨gbAc, 4, none⟩ (.int .i64 tBn)).setCell ⟨gbAc, 5, none⟩ (.slice Ao83 tBg.length co83)).heap[gbAc]? = some (.cells #[.int .i64 tBb, .int .i64 tBh, .int .i64 tBj, .int .i64 tBk, .int .i64 tBn, .slice Ao83 tBg.length co83] 29 (0, 0))) := ⟨by (with_reducible repeat (first | refine blk_drewN ?_ _ | refine blk_drew ?_ | refine blk_alloc ?_ _)); refine blk_put (cs := #[.int .i64 tBb, .int .i64 tBh, .int .i64 tBj, .int .i64 tBk, .int .i64 tBn, .slice none 0 0]) ?_ 5 _ rfl; refine blk_put (cs := #[.int .i64 tBb, .int .i64 tBh, .int .i64 tBj, .int .i64 tBk, .int .i64 0, .slice none 0 0]) ?_ 4 _ rfl; refine blk_put (cs := #[.int .i64 tBb, .int .i64 tBh, .int .i64 tBj, .int .i64 0, .int .i64 0, .slice none 0 0]) ?_ 3 _ rfl; refine blk_put (cs := #[.int .i64 tBb, .int .i64 tBh, .int .i64 0, .int .i64 0, .int .i64 0, .slice none 0 0]) ?_ 2 _ rfl; refine blk_put (cs := #[.int .i64 tBb, .int .i64 0, .int .i64 0, .int .i64 0, .int .i64 0, .slice none 0 0]) ?_ 1 _ rfl; refine blk_put (cs := #[.int .i64 0, .int .i64 0, .int .i64 0, .int .i64 0, .int .i64 0, .slice none 0 0]) ?_ 0 _ rfl; (with_reducible repeat (first | refine blk_drewN ?_ _ | refine blk_drew ?_ | refine blk_alloc ?_ _)); exact BKAc.out⟩
   have n7_ : Aside0 (Below w.heap.size w ((((((w77.setCell ⟨gbAc, 0, none⟩ (.int .i64 tBb)).setCell ⟨gbAc, 1, none⟩ (.int .i64 tBh)).setCell ⟨gbAc, 2, none⟩ (.int .i64 tBj)).setCell ⟨gbAc, 3, none⟩ (.int .i64 tBk)).setCell ⟨gbAc, 4, none⟩ (.int .i64 tBn)).setCell ⟨gbAc, 5, none⟩ (.slice Ao83 tBg.length co83))) := ⟨by repeat (first | (with_reducible first | exact HB.out | apply below_alloc | apply pw_below_drewN | apply below_drew1 | refine below_set ?_ GEAe.out | refine below_set ?_ GEAf.out | refine below_set ?_ GEAb.out | refine below_set ?_ GEAc.out) | exact HB.out)⟩
   (try clear HO_20)
   (try clear HO_Ai005)
   (try clear HOBd)
   (try clear BKAe)
   (try clear BKAf)
   (try clear BKAb)
   (try clear BKAc)
   (try clear HB)
   generalize ((((((w77.setCell ⟨gbAc, 0, none⟩ (.int .i64 tBb)).setCell ⟨gbAc, 1, none⟩ (.int .i64 tBh)).setCell ⟨gbAc, 2, none⟩ (.int .i64 tBj)).setCell ⟨gbAc, 3, none⟩ (.int .i64 tBk)).setCell ⟨gbAc, 4, none⟩ (.int .i64 tBn)).setCell ⟨gbAc, 5, none⟩ (.slice Ao83 tBg.length co83)) = w85 at n0_ n1_ n2_ n3_ n4_ n5_ n6_ n7_ ⊢
   have HO_20 := n0_
   have HO_Ai005 := n1_
   have HOBd := n2_
   have BKAe := n3_
   have BKAf := n4_
   have BKAb := n5_
   have BKAc := n6_
   have HB := n7_
   clear n0_ n1_ n2_ n3_ n4_ n5_ n6_ n7_
   replace HO_20 := Aside0.mk (Kd.R_drew HO_20.out)
   replace HO_Ai005 := Aside0.mk (Kd.R_drew HO_Ai005.out)
   replace HOBd := Aside0.mk (Kd.R_drew HOBd.out)
   replace BKAe := Aside0.mk (blk_drew BKAe.out)
   replace BKAf := Aside0.mk (blk_drew BKAf.out)
   replace BKAb := Aside0.mk (blk_drew BKAb.out)
   replace BKAc := Aside0.mk (blk_drew BKAc.out)
   replace HB := Aside0.mk (below_drew1 HB.out)
   have pBx : 0 ≤ (x21_1 : Int) := of_decide_eq_true (by first | (with_reducible assumption) | assumption)
   have qBx : x21_1 < (yAx.length : Int) := of_decide_eq_true (by first | (with_reducible assumption) | assumption)
   obtain ⟨adBx, eBx, hxBx_0⟩ := Kd.at_string (Kd.R_reads' HO_20.out).2.2 x21_1 pBx qBx
   obtain rfl : adBp = adBx := (by injection eBx)
   replace pBx := eq_true pBx
   replace qBx := eq_true qBx
   refine start_ (n := 12) (S := fun w' => w'.cell? ⟨gbAb, 0, none⟩ = some (.int .i64 tAh) ∧ w'.cell? ⟨gbAb, 1, none⟩ = some (.int .i64 tAp) ∧ w'.cell? ⟨gbAb, 2, none⟩ = some (.int .i64 tAq) ∧ w'.cell? ⟨gbAb, 3, none⟩ = some (.int .i64 tAr) ∧ w'.cell? ⟨gbAb, 4, none⟩ = some (.int .i64 tAs) ∧ w'.cell? ⟨gbAb, 5, none⟩ = some (.slice Ao56 tAk.length co56) ∧ w'.cell? (adBp.add (x21_1).toNat) = some (.string (rdOf ByteArray.empty yAx x21_1))) (ds := []) #[false, false, false, false, false, false, false, false, false, false, false, false] (by kernel_rfl) rfl rfl ⟨(blk_cell BKAb.out 0).trans rfl, (blk_cell BKAb.out 1).trans rfl, (blk_cell BKAb.out 2).trans rfl, (blk_cell BKAb.out 3).trans rfl, (blk_cell BKAb.out 4).trans rfl, (blk_cell BKAb.out 5).trans rfl, hxBx_0⟩ (fun hHeld => ?_); refine with_tabW plaitinglaw5_FrameReads.tab15 plaitinglaw5_FrameReads.bits15 (fun HT_ HW_ => ?_)
   generalize w85.drew = w86 at HO_20 HO_Ai005 HOBd BKAe BKAf BKAb BKAc HB hxBx_0 hHeld ⊢
   refine pq_ 1 118 HT_ ?_
   refine pq_ 2 119 HT_ ?_
   refine pq_ 3 120 HT_ ?_
   refine tq_ 0 117 HT_ HW_ hHeld ?_
   refine tq_ 4 121 HT_ HW_ hHeld ?_
   refine join_ (σ := Value × Nat) 2 #[true, true, true, true, true, true, true, true, true, true, false, false] (fun s_ => [(122, .tuple #[.agg #[.int .i64 tBe, .int .i64 tBr, .int .i64 tBs, .int .i64 tBt, .int .i64 tBv, s_.1], .int .i64 tCa]), (24, .pointer (some ⟨s_.2, 0, none⟩)), (116, .tuple #[.agg #[.int .i64 tBe, .int .i64 tBr, .int .i64 tBs, .int .i64 tBt, .int .i64 tBv, s_.1], .int .i64 tCa]), (123, .agg #[.int .i64 tBe, .int .i64 tBr, .int .i64 tBs, .int .i64 tBt, .int .i64 tBv, s_.1]), (124, .int .i64 tCa)]) (fun s_ w' => (w'.cell? ⟨gbAb, 0, none⟩ = some (.int .i64 tAh) ∧ w'.cell? ⟨gbAb, 1, none⟩ = some (.int .i64 tAp) ∧ w'.cell? ⟨gbAb, 2, none⟩ = some (.int .i64 tAq) ∧ w'.cell? ⟨gbAb, 3, none⟩ = some (.int .i64 tAr) ∧ w'.cell? ⟨gbAb, 4, none⟩ = some (.int .i64 tAs) ∧ w'.cell? ⟨gbAb, 5, none⟩ = some (.slice Ao56 tAk.length co56) ∧ w'.cell? (adBp.add (x21_1).toNat) = some (.string (rdOf ByteArray.empty yAx x21_1))) ∧ (Kd.R k26 26 w' w.heap.size (fun k_ => some k_ ≠ (s_.1 : Value).ownBlock) (.slice Ao83 tBg.length co83) tBg) ∧ (Kd.R k26 26 w' w.heap.size (fun k_ => some k_ ≠ (.slice Ao83 tBg.length co83 : Value).ownBlock) s_.1 tBw) ∧ (Kd.R (Kd.int .i64) 3 w' w.heap.size (fun _ => True) (.slice Ao56 tAk.length co56) tAk) ∧ (Kd.R Kd.string 9 w' w.heap.size (fun _ => True) (.slice (some adBp) yAx.length co73) yAx) ∧ (w'.heap[gbAe]? = some (.cells #[.int .i64 a0_0, .int .i64 a0_1, .int .i64 a0_2, .int .i64 a0_3, .int .i64 a0_4, .slice A0_5 l0_5.length c0_5] 24 (0, 0))) ∧ (w'.heap[gbAf]? = some (.cells #[.int .i64 a1_0, .int .i64 a1_1, .int .i64 a1_2, .int .i64 a1_3, .int .i64 a1_4, .slice A1_5 l1_5.length c1_5] 29 (0, 0))) ∧ (w'.heap[gbAb]? = some (.cells #[.int .i64 tAh, .int .i64 tAp, .int .i64 tAq, .int .i64 tAr, .int .i64 tAs, .slice Ao56 tAk.length co56] 24 (0, 0))) ∧ (w'.heap[gbAc]? = some (.cells #[.int .i64 tBb, .int .i64 tBh, .int .i64 tBj, .int .i64 tBk, .int .i64 tBn, .slice Ao83 tBg.length co83] 29 (0, 0))) ∧ (w'.heap[s_.2]? = some (.cells #[.int .i64 0, .int .i64 0, .int .i64 0, .int .i64 0, .int .i64 0, .slice none 0 0] 29 (0, 0))) ∧ (w.heap.size ≤ s_.2) ∧ (w.heap.size ≤ s_.2) ∧ (gbAe ≠ s_.2) ∧ (s_.2 ≠ gbAe) ∧ (gbAf ≠ s_.2) ∧ (s_.2 ≠ gbAf) ∧ (gbAb ≠ s_.2) ∧ (s_.2 ≠ gbAb) ∧ (gbAc ≠ s_.2) ∧ (s_.2 ≠ gbAc) ∧ (Below w.heap.size w w')) ?_ ?_
   rotate_left
   ·
    intro hCont
    refine two_ (i := 5) (j := 9) (Ni := some 122) (Nj := some 24) #[true, true, true, true, true, true, false, false, false, false, false, false] #[true, true, true, true, true, false, false, false, false, true, false, false] rfl rfl rfl rfl (two_of HT_.out (by kernel_rfl)) (by decide) (by decide) (fun K hK => ?_) (fun K hK => ?_)
    ·
     skip
     refine goes_ Try.func36 (by kernel_rfl) rfl #[.agg #[.int .i64 tAh, .int .i64 tAp, .int .i64 tAq, .int .i64 tAr, .int .i64 tAs, .slice Ao56 tAk.length co56], .string (rdOf ByteArray.empty yAx x21_1)] (by rfl) rfl rfl (by (try simp only [List.map_toArray, List.map_cons, List.map_nil]); first | done | rfl | (simp only [List.length_drop, List.length_take]; rfl)) ?_
     with_reducible refine (plaitingref5_Read.calls k1 tAh tAp tAq tAr tAs _ _ tAk (rdOf ByteArray.empty yAx x21_1) tBe tBr tBs tBt tBv tBw tCa _ ?side1 ?side2 A69.out).mono ?_
     (case side1 => repeat (first | exact (Kd.R_reads' HO_Ai005.out).2.2 | (with_reducible refine Kd.C_alloc ?_ _) | (with_reducible refine Kd.C_drewN ?_ _) | (with_reducible refine Kd.C_drew ?_)))
     (case side2 => exact (Kd.R_reads' HO_Ai005.out).2.1)
     rintro e w87 ⟨vCe, rfl, ho0, hb⟩
     have HS6_ := (hb.cell (World.block_lt_of_cell? _ _ (hHeld.2.2.2.2.2.2))).trans (hHeld.2.2.2.2.2.2)
     refine ⟨_, rfl, ?_⟩
     have HOBz := Aside0.mk (Kd.R_lower (Kd.R_new' ho0 (Kd.R_lt (pR_ HOBd.out))) (below_size (pH_ HB.out)))
     replace HO_20 := Aside0.mk (Kd.R_below (pR_ HO_20.out) hb)
     replace HO_Ai005 := Aside0.mk (Kd.R_below (pR_ HO_Ai005.out) hb)
     replace HOBd := Aside0.mk (Kd.R_elder' (pR_ HOBd.out) (Kd.R_base ho0) hb)
     replace BKAe := Aside0.mk (blk_below (pB_ BKAe.out) hb)
     replace BKAf := Aside0.mk (blk_below (pB_ BKAf.out) hb)
     replace BKAb := Aside0.mk (blk_below (pB_ BKAb.out) hb)
     replace BKAc := Aside0.mk (blk_below (pB_ BKAc.out) hb)
     replace HB := Aside0.mk (below_step (pH_ HB.out) hb)
     (try clear hb)
     (try clear hb2)
     (try clear hk)
     (try clear hi)
     (try clear ho0)
     refine hK.out _ _ ⟨(blk_cell BKAb.out 0).trans rfl, (blk_cell BKAb.out 1).trans rfl, (blk_cell BKAb.out 2).trans rfl, (blk_cell BKAb.out 3).trans rfl, (blk_cell BKAb.out 4).trans rfl, (blk_cell BKAb.out 5).trans rfl, HS6_⟩ (fun hHeld => ?_)
     clear hK K
     refine norm_ (a' := ?_) ?_ ?_
     rotate_left
     ·
      show Act.put _ (some 122) _ = _
      simp only [Act.put, List.setIfInBounds_toArray, List.set_cons_zero, List.set_cons_succ, i64_w, i32_w]
      rfl
     refine pq_ 6 116 HT_ ?_
     refine pq_ 7 123 HT_ ?_
     refine pq_ 8 124 HT_ ?_
     refine one_ (i := 9) (N := some 24) #[true, true, true, true, true, true, true, true, true, true, false, false] rfl rfl (one_of HT_.out (by kernel_rfl)) (by decide) (fun K hK => ?_)
     refine box_step ?hg (N := 24) ?hd (cs := #[.int .i64 0, .int .i64 0, .int .i64 0, .int .i64 0, .int .i64 0, .slice none 0 0]) (t := 29) ?hr ?_; (case hd => rfl); (case hg => rfl); (case hr => first | (go_simp; done) | (go_simp; rfl))
     intro gbAd hg w88 hbox hb
     have HS6_ := (hb.cell (World.block_lt_of_cell? _ _ (hHeld.2.2.2.2.2.2))).trans (hHeld.2.2.2.2.2.2)
     have BKAd := Aside0.mk (hbox)
     have GWAd := Aside0.mk ((by rw [hg]; exact (below_size (pH_ HB.out)) : w.heap.size ≤ gbAd))
     have GEAd := Aside0.mk ((by rw [hg]; exact (below_size (pH_ HB.out)) : w.heap.size ≤ gbAd))
     have NBAe_Ad := Aside0.mk (ltB_ hg BKAe.out)
     have NBAd_Ae := Aside0.mk (ltB_ hg BKAe.out).symm
     have NBAf_Ad := Aside0.mk (ltB_ hg BKAf.out)
     have NBAd_Af := Aside0.mk (ltB_ hg BKAf.out).symm
     have NBAb_Ad := Aside0.mk (ltB_ hg BKAb.out)
     have NBAd_Ab := Aside0.mk (ltB_ hg BKAb.out).symm
     have NBAc_Ad := Aside0.mk (ltB_ hg BKAc.out)
     have NBAd_Ac := Aside0.mk (ltB_ hg BKAc.out).symm
     replace HO_20 := Aside0.mk (Kd.R_below (pR_ HO_20.out) hb)
     replace HO_Ai005 := Aside0.mk (Kd.R_below (pR_ HO_Ai005.out) hb)
     replace HOBd := Aside0.mk (Kd.R_below (pR_ HOBd.out) hb)
     replace HOBz := Aside0.mk (Kd.R_below (pR_ HOBz.out) hb)
     replace BKAe := Aside0.mk (blk_below (pB_ BKAe.out) hb)
     replace BKAf := Aside0.mk (blk_below (pB_ BKAf.out) hb)
     replace BKAb := Aside0.mk (blk_below (pB_ BKAb.out) hb)
     replace BKAc := Aside0.mk (blk_below (pB_ BKAc.out) hb)
     replace HB := Aside0.mk (below_step (pH_ HB.out) hb)
     clear hb hbox hg
     refine hK.out _ _ ⟨(blk_cell BKAb.out 0).trans rfl, (blk_cell BKAb.out 1).trans rfl, (blk_cell BKAb.out 2).trans rfl, (blk_cell BKAb.out 3).trans rfl, (blk_cell BKAb.out 4).trans rfl, (blk_cell BKAb.out 5).trans rfl, HS6_⟩ (fun hHeld => ?_)
     clear hK K
     refine norm_ (a' := ?_) ?_ ?_
     rotate_left
     ·
      show Act.put _ (some 24) _ = _
      simp only [Act.put, List.setIfInBounds_toArray, List.set_cons_zero, List.set_cons_succ, i64_w, i32_w]
      rfl
     exact norm_ (by simp only [putAll, Act.put, List.setIfInBounds_toArray, List.set_cons_zero, List.set_cons_succ]) (hCont (vCe, gbAd) _ ⟨hHeld, (by (with_reducible repeat (first | apply Kd.R_alloc | apply Kd.R_drewN | apply Kd.R_drew)); exact Kd.R_mono HOBd.out (fun _ hk => hk.2)), (by (with_reducible repeat (first | apply Kd.R_alloc | apply Kd.R_drewN | apply Kd.R_drew)); exact Kd.R_mono HOBz.out (fun _ hk => hk.2)), (pR_ HO_Ai005.out), (pR_ HO_20.out), (pB_ BKAe.out), (pB_ BKAf.out), (pB_ BKAb.out), (pB_ BKAc.out), (pB_ BKAd.out), GWAd.out, GEAd.out, NBAe_Ad.out, NBAd_Ae.out, NBAf_Ad.out, NBAd_Af.out, NBAb_Ad.out, NBAd_Ab.out, NBAc_Ad.out, NBAd_Ac.out, (pH_ HB.out)⟩)
    skip
    refine box_step ?hg (N := 24) ?hd (cs := #[.int .i64 0, .int .i64 0, .int .i64 0, .int .i64 0, .int .i64 0, .slice none 0 0]) (t := 29) ?hr ?_; (case hd => rfl); (case hg => rfl); (case hr => first | (go_simp; done) | (go_simp; rfl))
    intro gbAd hg w87 hbox hb
    have HS6_ := (hb.cell (World.block_lt_of_cell? _ _ (hHeld.2.2.2.2.2.2))).trans (hHeld.2.2.2.2.2.2)
    have BKAd := Aside0.mk (hbox)
    have GWAd := Aside0.mk ((by rw [hg]; exact (below_size (pH_ HB.out)) : w.heap.size ≤ gbAd))
    have GEAd := Aside0.mk ((by rw [hg]; exact (below_size (pH_ HB.out)) : w.heap.size ≤ gbAd))
    have NBAe_Ad := Aside0.mk (ltB_ hg BKAe.out)
    have NBAd_Ae := Aside0.mk (ltB_ hg BKAe.out).symm
    have NBAf_Ad := Aside0.mk (ltB_ hg BKAf.out)
    have NBAd_Af := Aside0.mk (ltB_ hg BKAf.out).symm
    have NBAb_Ad := Aside0.mk (ltB_ hg BKAb.out)
    have NBAd_Ab := Aside0.mk (ltB_ hg BKAb.out).symm
    have NBAc_Ad := Aside0.mk (ltB_ hg BKAc.out)
    have NBAd_Ac := Aside0.mk (ltB_ hg BKAc.out).symm
    replace HO_20 := Aside0.mk (Kd.R_below (pR_ HO_20.out) hb)
    replace HO_Ai005 := Aside0.mk (Kd.R_below (pR_ HO_Ai005.out) hb)
    replace HOBd := Aside0.mk (Kd.R_below (pR_ HOBd.out) hb)
    replace BKAe := Aside0.mk (blk_below (pB_ BKAe.out) hb)
    replace BKAf := Aside0.mk (blk_below (pB_ BKAf.out) hb)
    replace BKAb := Aside0.mk (blk_below (pB_ BKAb.out) hb)
    replace BKAc := Aside0.mk (blk_below (pB_ BKAc.out) hb)
    replace HB := Aside0.mk (below_step (pH_ HB.out) hb)
    clear hb hbox hg
    refine hK.out _ _ ⟨(blk_cell BKAb.out 0).trans rfl, (blk_cell BKAb.out 1).trans rfl, (blk_cell BKAb.out 2).trans rfl, (blk_cell BKAb.out 3).trans rfl, (blk_cell BKAb.out 4).trans rfl, (blk_cell BKAb.out 5).trans rfl, HS6_⟩ (fun hHeld => ?_)
    clear hK K
    refine norm_ (a' := ?_) ?_ ?_
    rotate_left
    ·
     show Act.put _ (some 24) _ = _
     simp only [Act.put, List.setIfInBounds_toArray, List.set_cons_zero, List.set_cons_succ, i64_w, i32_w]
     rfl
    refine one_ (i := 5) (N := some 122) #[true, true, true, true, true, true, false, false, false, true, false, false] rfl rfl (one_of HT_.out (by kernel_rfl)) (by decide) (fun K hK => ?_)
    refine goes_ Try.func36 (by kernel_rfl) rfl #[.agg #[.int .i64 tAh, .int .i64 tAp, .int .i64 tAq, .int .i64 tAr, .int .i64 tAs, .slice Ao56 tAk.length co56], .string (rdOf ByteArray.empty yAx x21_1)] (by rfl) rfl rfl (by (try simp only [List.map_toArray, List.map_cons, List.map_nil]); first | done | rfl | (simp only [List.length_drop, List.length_take]; rfl)) ?_
    with_reducible refine (plaitingref5_Read.calls k1 tAh tAp tAq tAr tAs _ _ tAk (rdOf ByteArray.empty yAx x21_1) tBe tBr tBs tBt tBv tBw tCa _ ?side1 ?side2 A69.out).mono ?_
    (case side1 => repeat (first | exact (Kd.R_reads' HO_Ai005.out).2.2 | (with_reducible refine Kd.C_alloc ?_ _) | (with_reducible refine Kd.C_drewN ?_ _) | (with_reducible refine Kd.C_drew ?_)))
    (case side2 => exact (Kd.R_reads' HO_Ai005.out).2.1)
    rintro e w88 ⟨vCe, rfl, ho0, hb⟩
    have HS6_ := (hb.cell (World.block_lt_of_cell? _ _ (hHeld.2.2.2.2.2.2))).trans (hHeld.2.2.2.2.2.2)
    refine ⟨_, rfl, ?_⟩
    have HOBz := Aside0.mk (Kd.R_lower (Kd.R_new' ho0 (Kd.R_lt (pR_ HOBd.out))) (below_size (pH_ HB.out)))
    replace HO_20 := Aside0.mk (Kd.R_below (pR_ HO_20.out) hb)
    replace HO_Ai005 := Aside0.mk (Kd.R_below (pR_ HO_Ai005.out) hb)
    replace HOBd := Aside0.mk (Kd.R_elder' (pR_ HOBd.out) (Kd.R_base ho0) hb)
    replace BKAe := Aside0.mk (blk_below (pB_ BKAe.out) hb)
    replace BKAf := Aside0.mk (blk_below (pB_ BKAf.out) hb)
    replace BKAb := Aside0.mk (blk_below (pB_ BKAb.out) hb)
    replace BKAc := Aside0.mk (blk_below (pB_ BKAc.out) hb)
    replace BKAd := Aside0.mk (blk_below (pB_ BKAd.out) hb)
    replace HB := Aside0.mk (below_step (pH_ HB.out) hb)
    (try clear hb)
    (try clear hb2)
    (try clear hk)
    (try clear hi)
    (try clear ho0)
    refine hK.out _ _ ⟨(blk_cell BKAb.out 0).trans rfl, (blk_cell BKAb.out 1).trans rfl, (blk_cell BKAb.out 2).trans rfl, (blk_cell BKAb.out 3).trans rfl, (blk_cell BKAb.out 4).trans rfl, (blk_cell BKAb.out 5).trans rfl, HS6_⟩ (fun hHeld => ?_)
    clear hK K
    refine norm_ (a' := ?_) ?_ ?_
    rotate_left
    ·
     show Act.put _ (some 122) _ = _
     simp only [Act.put, List.setIfInBounds_toArray, List.set_cons_zero, List.set_cons_succ, i64_w, i32_w]
     rfl
    refine pq_ 6 116 HT_ ?_
    refine pq_ 7 123 HT_ ?_
    refine pq_ 8 124 HT_ ?_
    exact norm_ (by simp only [putAll, Act.put, List.setIfInBounds_toArray, List.set_cons_zero, List.set_cons_succ]) (hCont (vCe, gbAd) _ ⟨hHeld, (by (with_reducible repeat (first | apply Kd.R_alloc | apply Kd.R_drewN | apply Kd.R_drew)); exact Kd.R_mono HOBd.out (fun _ hk => hk.2)), (by (with_reducible repeat (first | apply Kd.R_alloc | apply Kd.R_drewN | apply Kd.R_drew)); exact Kd.R_mono HOBz.out (fun _ hk => hk.2)), (pR_ HO_Ai005.out), (pR_ HO_20.out), (pB_ BKAe.out), (pB_ BKAf.out), (pB_ BKAb.out), (pB_ BKAc.out), (pB_ BKAd.out), GWAd.out, GEAd.out, NBAe_Ad.out, NBAd_Ae.out, NBAf_Ad.out, NBAd_Af.out, NBAb_Ad.out, NBAd_Ab.out, NBAc_Ad.out, NBAd_Ac.out, (pH_ HB.out)⟩)
   rintro ⟨vCe, gbAd⟩ w89 ⟨hS_, h0_, h1_, h2_, h3_, h4_, h5_, h6_, h7_, h8_, h9_, h10_, h11_, h12_, h13_, h14_, h15_, h16_, h17_, h18_, h19_⟩
   have n0_ : Aside0 (Kd.R k26 26 w89 w.heap.size (fun k_ => some k_ ≠ (vCe : Value).ownBlock) (.slice Ao83 tBg.length co83) tBg) := ⟨h0_⟩
   have n1_ : Aside0 (Kd.R k26 26 w89 w.heap.size (fun k_ => some k_ ≠ (.slice Ao83 tBg.length co83 : Value).ownBlock) vCe tBw) := ⟨h1_⟩
   have n2_ : Aside0 (Kd.R (Kd.int .i64) 3 w89 w.heap.size (fun _ => True) (.slice Ao56 tAk.length co56) tAk) := ⟨h2_⟩
   have n3_ : Aside0 (Kd.R Kd.string 9 w89 w.heap.size (fun _ => True) (.slice (some adBp) yAx.length co73) yAx) := ⟨h3_⟩
   have n4_ : Aside0 (w89.heap[gbAe]? = some (.cells #[.int .i64 a0_0, .int .i64 a0_1, .int .i64 a0_2, .int .i64 a0_3, .int .i64 a0_4, .slice A0_5 l0_5.length c0_5] 24 (0, 0))) := ⟨h4_⟩
   have n5_ : Aside0 (w89.heap[gbAf]? = some (.cells #[.int .i64 a1_0, .int .i64 a1_1, .int .i64 a1_2, .int .i64 a1_3, .int .i64 a1_4, .slice A1_5 l1_5.length c1_5] 29 (0, 0))) := ⟨h5_⟩
   have n6_ : Aside0 (w89.heap[gbAb]? = some (.cells #[.int .i64 tAh, .int .i64 tAp, .int .i64 tAq, .int .i64 tAr, .int .i64 tAs, .slice Ao56 tAk.length co56] 24 (0, 0))) := ⟨h6_⟩
   have n7_ : Aside0 (w89.heap[gbAc]? = some (.cells #[.int .i64 tBb, .int .i64 tBh, .int .i64 tBj, .int .i64 tBk, .int .i64 tBn, .slice Ao83 tBg.length co83] 29 (0, 0))) := ⟨h7_⟩
   have n8_ : Aside0 (w89.heap[gbAd]? = some (.cells #[.int .i64 0, .int .i64 0, .int .i64 0, .int .i64 0, .int .i64 0, .slice none 0 0] 29 (0, 0))) := ⟨h8_⟩
   have n9_ : Aside0 (w.heap.size ≤ gbAd) := ⟨h9_⟩
   have n10_ : Aside0 (w.heap.size ≤ gbAd) := ⟨h10_⟩
   have n11_ : Aside0 (gbAe ≠ gbAd) := ⟨h11_⟩
   have n12_ : Aside0 (gbAd ≠ gbAe) := ⟨h12_⟩
   have n13_ : Aside0 (gbAf ≠ gbAd) := ⟨h13_⟩
   have n14_ : Aside0 (gbAd ≠ gbAf) := ⟨h14_⟩
   have n15_ : Aside0 (gbAb ≠ gbAd) := ⟨h15_⟩
   have n16_ : Aside0 (gbAd ≠ gbAb) := ⟨h16_⟩
   have n17_ : Aside0 (gbAc ≠ gbAd) := ⟨h17_⟩
   have n18_ : Aside0 (gbAd ≠ gbAc) := ⟨h18_⟩
   have n19_ : Aside0 (Below w.heap.size w w89) := ⟨h19_⟩
   clear HO_20
   clear HO_Ai005
   clear HOBd
   clear BKAe
   clear BKAf
   clear BKAb
   clear BKAc
   clear HB
   clear h0_ h1_ h2_ h3_ h4_ h5_ h6_ h7_ h8_ h9_ h10_ h11_ h12_ h13_ h14_ h15_ h16_ h17_ h18_ h19_
   have HOBd := n0_
   have HOBz := n1_
   have HO_Ai005 := n2_
   have HO_20 := n3_
   have BKAe := n4_
   have BKAf := n5_
   have BKAb := n6_
   have BKAc := n7_
   have BKAd := n8_
   have GWAd := n9_
   have GEAd := n10_
   have NBAe_Ad := n11_
   have NBAd_Ae := n12_
   have NBAf_Ad := n13_
   have NBAd_Af := n14_
   have NBAb_Ad := n15_
   have NBAd_Ab := n16_
   have NBAc_Ad := n17_
   have NBAd_Ac := n18_
   have HB := n19_
   clear n0_ n1_ n2_ n3_ n4_ n5_ n6_ n7_ n8_ n9_ n10_ n11_ n12_ n13_ n14_ n15_ n16_ n17_ n18_ n19_
   have hHeld : w89.cell? ⟨gbAb, 0, none⟩ = some (.int .i64 tAh) ∧ w89.cell? ⟨gbAb, 1, none⟩ = some (.int .i64 tAp) ∧ w89.cell? ⟨gbAb, 2, none⟩ = some (.int .i64 tAq) ∧ w89.cell? ⟨gbAb, 3, none⟩ = some (.int .i64 tAr) ∧ w89.cell? ⟨gbAb, 4, none⟩ = some (.int .i64 tAs) ∧ w89.cell? ⟨gbAb, 5, none⟩ = some (.slice Ao56 tAk.length co56) ∧ w89.cell? (adBp.add (x21_1).toNat) = some (.string (rdOf ByteArray.empty yAx x21_1)) := hS_
   obtain ⟨Ao95, co95, eo95⟩ := Kd.R_slice HOBz.out
   (first | subst eo95 | (injection eo95 with f1_ f2_ f3_; have f4_ := f1_.symm; have f5_ := f3_.symm; clear f1_ f2_ f3_; subst f4_; subst f5_))
   refine norm_ (a' := ?_) ?_ ?_
   rotate_left
   ·
    simp only [putAll, Act.put, List.setIfInBounds_toArray, List.set_cons_zero, List.set_cons_succ]
    rfl
   refine one_ (i := 10) (N := none) #[true, true, true, true, true, true, true, true, true, true, true, false] rfl rfl (one_of HT_.out (by kernel_rfl)) (by decide) (fun K hK => ?_)
   have hs90 : w89.cell? ⟨gbAd, 0, none⟩ = some (.int .i64 0) := (blk_cell BKAd.out 0).trans rfl
   have hfs90 := blk_frozen BKAd.out 0
   have hns90_0 := NBAe_Ad.out
   have hns90_1 := NBAf_Ad.out
   have hns90_2 := NBAb_Ad.out
   have hns90_3 := NBAc_Ad.out
   have hms90_0 := NBAd_Ae.out
   have hms90_1 := NBAd_Af.out
   have hms90_2 := NBAd_Ab.out
   have hms90_3 := NBAd_Ac.out
   have hs91 : w89.cell? ⟨gbAd, 1, none⟩ = some (.int .i64 0) := (blk_cell BKAd.out 1).trans rfl
   have hfs91 := blk_frozen BKAd.out 1
   have hns91_0 := NBAe_Ad.out
   have hns91_1 := NBAf_Ad.out
   have hns91_2 := NBAb_Ad.out
   have hns91_3 := NBAc_Ad.out
   have hms91_0 := NBAd_Ae.out
   have hms91_1 := NBAd_Af.out
   have hms91_2 := NBAd_Ab.out
   have hms91_3 := NBAd_Ac.out
   have hs92 : w89.cell? ⟨gbAd, 2, none⟩ = some (.int .i64 0) := (blk_cell BKAd.out 2).trans rfl
   have hfs92 := blk_frozen BKAd.out 2
   have hns92_0 := NBAe_Ad.out
   have hns92_1 := NBAf_Ad.out
   have hns92_2 := NBAb_Ad.out
   have hns92_3 := NBAc_Ad.out
   have hms92_0 := NBAd_Ae.out
   have hms92_1 := NBAd_Af.out
   have hms92_2 := NBAd_Ab.out
   have hms92_3 := NBAd_Ac.out
   have hs93 : w89.cell? ⟨gbAd, 3, none⟩ = some (.int .i64 0) := (blk_cell BKAd.out 3).trans rfl
   have hfs93 := blk_frozen BKAd.out 3
   have hns93_0 := NBAe_Ad.out
   have hns93_1 := NBAf_Ad.out
   have hns93_2 := NBAb_Ad.out
   have hns93_3 := NBAc_Ad.out
   have hms93_0 := NBAd_Ae.out
   have hms93_1 := NBAd_Af.out
   have hms93_2 := NBAd_Ab.out
   have hms93_3 := NBAd_Ac.out
   have hs94 : w89.cell? ⟨gbAd, 4, none⟩ = some (.int .i64 0) := (blk_cell BKAd.out 4).trans rfl
   have hfs94 := blk_frozen BKAd.out 4
   have hns94_0 := NBAe_Ad.out
   have hns94_1 := NBAf_Ad.out
   have hns94_2 := NBAb_Ad.out
   have hns94_3 := NBAc_Ad.out
   have hms94_0 := NBAd_Ae.out
   have hms94_1 := NBAd_Af.out
   have hms94_2 := NBAd_Ab.out
   have hms94_3 := NBAd_Ac.out
   have hs96 : w89.cell? ⟨gbAd, 5, none⟩ = some (.slice none 0 0) := (blk_cell BKAd.out 5).trans rfl
   have hfs96 := blk_frozen BKAd.out 5
   have hns96_0 := NBAe_Ad.out
   have hns96_1 := NBAf_Ad.out
   have hns96_2 := NBAb_Ad.out
   have hns96_3 := NBAc_Ad.out
   have hms96_0 := NBAd_Ae.out
   have hms96_1 := NBAd_Af.out
   have hms96_2 := NBAd_Ab.out
   have hms96_3 := NBAd_Ac.out
   refine skip_ (w1 := ?_) (by rfl) rfl ?_ ?_
   rotate_left
   ·
    go_simp
    rfl
   refine hK.out _ _ ⟨((cell_far (p := ⟨gbAd, _, none⟩) NBAb_Ad.out _).trans (((cell_far (p := ⟨gbAd, _, none⟩) NBAb_Ad.out _).trans (((cell_far (p := ⟨gbAd, _, none⟩) NBAb_Ad.out _).trans (((cell_far (p := ⟨gbAd, _, none⟩) NBAb_Ad.out _).trans (((cell_far (p := ⟨gbAd, _, none⟩) NBAb_Ad.out _).trans (((cell_far (p := ⟨gbAd, _, none⟩) NBAb_Ad.out _).trans (hHeld.1)))))))))))), ((cell_far (p := ⟨gbAd, _, none⟩) NBAb_Ad.out _).trans (((cell_far (p := ⟨gbAd, _, none⟩) NBAb_Ad.out _).trans (((cell_far (p := ⟨gbAd, _, none⟩) NBAb_Ad.out _).trans (((cell_far (p := ⟨gbAd, _, none⟩) NBAb_Ad.out _).trans (((cell_far (p := ⟨gbAd, _, none⟩) NBAb_Ad.out _).trans (((cell_far (p := ⟨gbAd, _, none⟩) NBAb_Ad.out _).trans (hHeld.2.1)))))))))))), ((cell_far (p := ⟨gbAd, _, none⟩) NBAb_Ad.out _).trans (((cell_far (p := ⟨gbAd, _, none⟩) NBAb_Ad.out _).trans (((cell_far (p := ⟨gbAd, _, none⟩) NBAb_Ad.out _).trans (((cell_far (p := ⟨gbAd, _, none⟩) NBAb_Ad.out _).trans (((cell_far (p := ⟨gbAd, _, none⟩) NBAb_Ad.out _).trans (((cell_far (p := ⟨gbAd, _, none⟩) NBAb_Ad.out _).trans (hHeld.2.2.1)))))))))))), ((cell_far (p := ⟨gbAd, _, none⟩) NBAb_Ad.out _).trans (((cell_far (p := ⟨gbAd, _, none⟩) NBAb_Ad.out _).trans (((cell_far (p := ⟨gbAd, _, none⟩) NBAb_Ad.out _).trans (((cell_far (p := ⟨gbAd, _, none⟩) NBAb_Ad.out _).trans (((cell_far (p := ⟨gbAd, _, none⟩) NBAb_Ad.out _).trans (((cell_far (p := ⟨gbAd, _, none⟩) NBAb_Ad.out _).trans (hHeld.2.2.2.1)))))))))))), ((cell_far (p := ⟨gbAd, _, none⟩) NBAb_Ad.out _).trans (((cell_far (p := ⟨gbAd, _, none⟩) NBAb_Ad.out _).trans (((cell_far (p := ⟨gbAd, _, none⟩) NBAb_Ad.out _).trans (((cell_far (p := ⟨gbAd, _, none⟩) NBAb_Ad.out _).trans (((cell_far (p := ⟨gbAd, _, none⟩) NBAb_Ad.out _).trans (((cell_far (p := ⟨gbAd, _, none⟩) NBAb_Ad.out _).trans (hHeld.2.2.2.2.1)))))))))))), ((cell_far (p := ⟨gbAd, _, none⟩) NBAb_Ad.out _).trans (((cell_far (p := ⟨gbAd, _, none⟩) NBAb_Ad.out _).trans (((cell_far (p := ⟨gbAd, _, none⟩) NBAb_Ad.out _).trans (((cell_far (p := ⟨gbAd, _, none⟩) NBAb_Ad.out _).trans (((cell_far (p := ⟨gbAd, _, none⟩) NBAb_Ad.out _).trans (((cell_far (p := ⟨gbAd, _, none⟩) NBAb_Ad.out _).trans (hHeld.2.2.2.2.2.1)))))))))))), ((cell_far (p := ⟨gbAd, _, none⟩) (by first | exact Kd.own_blk (Kd.R_ne HO_20.out BKAd.out (by decide)) | (rw [add_block]; exact Kd.own_blk (Kd.R_ne HO_20.out BKAd.out (by decide))) | (show (Addr.add _ _).block ≠ _; rw [add_block]; exact Kd.own_blk (Kd.R_ne HO_20.out BKAd.out (by decide))) | (dsimp only; exact Kd.own_blk (Kd.R_ne HO_20.out BKAd.out (by decide)))) _).trans (((cell_far (p := ⟨gbAd, _, none⟩) (by first | exact Kd.own_blk (Kd.R_ne HO_20.out BKAd.out (by decide)) | (rw [add_block]; exact Kd.own_blk (Kd.R_ne HO_20.out BKAd.out (by decide))) | (show (Addr.add _ _).block ≠ _; rw [add_block]; exact Kd.own_blk (Kd.R_ne HO_20.out BKAd.out (by decide))) | (dsimp only; exact Kd.own_blk (Kd.R_ne HO_20.out BKAd.out (by decide)))) _).trans (((cell_far (p := ⟨gbAd, _, none⟩) (by first | exact Kd.own_blk (Kd.R_ne HO_20.out BKAd.out (by decide)) | (rw [add_block]; exact Kd.own_blk (Kd.R_ne HO_20.out BKAd.out (by decide))) | (show (Addr.add _ _).block ≠ _; rw [add_block]; exact Kd.own_blk (Kd.R_ne HO_20.out BKAd.out (by decide))) | (dsimp only; exact Kd.own_blk (Kd.R_ne HO_20.out BKAd.out (by decide)))) _).trans (((cell_far (p := ⟨gbAd, _, none⟩) (by first | exact Kd.own_blk (Kd.R_ne HO_20.out BKAd.out (by decide)) | (rw [add_block]; exact Kd.own_blk (Kd.R_ne HO_20.out BKAd.out (by decide))) | (show (Addr.add _ _).block ≠ _; rw [add_block]; exact Kd.own_blk (Kd.R_ne HO_20.out BKAd.out (by decide))) | (dsimp only; exact Kd.own_blk (Kd.R_ne HO_20.out BKAd.out (by decide)))) _).trans (((cell_far (p := ⟨gbAd, _, none⟩) (by first | exact Kd.own_blk (Kd.R_ne HO_20.out BKAd.out (by decide)) | (rw [add_block]; exact Kd.own_blk (Kd.R_ne HO_20.out BKAd.out (by decide))) | (show (Addr.add _ _).block ≠ _; rw [add_block]; exact Kd.own_blk (Kd.R_ne HO_20.out BKAd.out (by decide))) | (dsimp only; exact Kd.own_blk (Kd.R_ne HO_20.out BKAd.out (by decide)))) _).trans (((cell_far (p := ⟨gbAd, _, none⟩) (by first | exact Kd.own_blk (Kd.R_ne HO_20.out BKAd.out (by decide)) | (rw [add_block]; exact Kd.own_blk (Kd.R_ne HO_20.out BKAd.out (by decide))) | (show (Addr.add _ _).block ≠ _; rw [add_block]; exact Kd.own_blk (Kd.R_ne HO_20.out BKAd.out (by decide))) | (dsimp only; exact Kd.own_blk (Kd.R_ne HO_20.out BKAd.out (by decide)))) _).trans (hHeld.2.2.2.2.2.2))))))))))))⟩ (fun hHeld => ?_)
   clear hK K
   refine pq_ 11 25 HT_ ?_
   refine done_ (done_of HT_.out (by kernel_rfl)) ?_
   have hnb97 := NBAc_Ae.out
   have hnc97 := NBAe_Ac.out
   have hnb98 := NBAc_Af.out
   have hnc98 := NBAf_Ac.out
   have hnb99 := NBAc_Ab.out
   have hnc99 := NBAb_Ac.out
   have hnb100 := NBAc_Ad.out
   have hnc100 := NBAd_Ac.out
   have hcz101_0 : w89.cell? ⟨gbAc, 0, none⟩ = some (.int .i64 tBb) := (blk_cell BKAc.out 0).trans rfl
   have hcz101_1 : w89.cell? ⟨gbAc, 1, none⟩ = some (.int .i64 tBh) := (blk_cell BKAc.out 1).trans rfl
   have hcz101_2 : w89.cell? ⟨gbAc, 2, none⟩ = some (.int .i64 tBj) := (blk_cell BKAc.out 2).trans rfl
   have hcz101_3 : w89.cell? ⟨gbAc, 3, none⟩ = some (.int .i64 tBk) := (blk_cell BKAc.out 3).trans rfl
   have hcz101_4 : w89.cell? ⟨gbAc, 4, none⟩ = some (.int .i64 tBn) := (blk_cell BKAc.out 4).trans rfl
   have hcz101_5 : w89.cell? ⟨gbAc, 5, none⟩ = some (.slice Ao83 tBg.length co83) := (blk_cell BKAc.out 5).trans rfl
   have hfz101_0 := blk_frozen BKAc.out 0
   have hfz101_1 := blk_frozen BKAc.out 1
   have hfz101_2 := blk_frozen BKAc.out 2
   have hfz101_3 := blk_frozen BKAc.out 3
   have hfz101_4 := blk_frozen BKAc.out 4
   have hfz101_5 := blk_frozen BKAc.out 5
   have hnb102 := NBAd_Ae.out
   have hnc102 := NBAe_Ad.out
   have hnb103 := NBAd_Af.out
   have hnc103 := NBAf_Ad.out
   have hnb104 := NBAd_Ab.out
   have hnc104 := NBAb_Ad.out
   have hcz105_0 : w89.cell? ⟨gbAd, 0, none⟩ = some (.int .i64 0) := (blk_cell BKAd.out 0).trans rfl
   have hcz105_1 : w89.cell? ⟨gbAd, 1, none⟩ = some (.int .i64 0) := (blk_cell BKAd.out 1).trans rfl
   have hcz105_2 : w89.cell? ⟨gbAd, 2, none⟩ = some (.int .i64 0) := (blk_cell BKAd.out 2).trans rfl
   have hcz105_3 : w89.cell? ⟨gbAd, 3, none⟩ = some (.int .i64 0) := (blk_cell BKAd.out 3).trans rfl
   have hcz105_4 : w89.cell? ⟨gbAd, 4, none⟩ = some (.int .i64 0) := (blk_cell BKAd.out 4).trans rfl
   have hcz105_5 : w89.cell? ⟨gbAd, 5, none⟩ = some (.slice none 0 0) := (blk_cell BKAd.out 5).trans rfl
   have hfz105_0 := blk_frozen BKAd.out 0
   have hfz105_1 := blk_frozen BKAd.out 1
   have hfz105_2 := blk_frozen BKAd.out 2
   have hfz105_3 := blk_frozen BKAd.out 3
   have hfz105_4 := blk_frozen BKAd.out 4
   have hfz105_5 := blk_frozen BKAd.out 5
   try go_wp2_with (first | (go_at_call 30; (with_reducible refine (plaitingref5_Same.calls k1 tBb tBh tBj tBk tBn _ _ tBg tBe tBr tBs tBt tBv _ _ tBw true _ ?side1 ?side2 ?side3 ?side4 A71.out).mono ?_); (case side1 => refine (Kd.R_reads' (e := 26) (base := w.heap.size) (ok := fun k_ => some k_ ≠ (.slice Ao95 tBw.length co95 : Value).ownBlock) (n := tBg.length) (c := co83) ?_).2.2; exact (by (with_reducible repeat (first | apply Kd.R_alloc | apply Kd.R_drewN | apply Kd.R_drew)); exact (Kd.R_mono (Kd.R_far (p := ⟨gbAd, 5, none⟩) (Kd.R_far (p := ⟨gbAd, 4, none⟩) (Kd.R_far (p := ⟨gbAd, 3, none⟩) (Kd.R_far (p := ⟨gbAd, 2, none⟩) (Kd.R_far (p := ⟨gbAd, 1, none⟩) (Kd.R_far (p := ⟨gbAd, 0, none⟩) (Kd.R_types HOBd.out BKAd.out (by decide)) (fun _ hk => hk.2) (.int .i64 tBe)) (fun _ hk => hk.2) (.int .i64 tBr)) (fun _ hk => hk.2) (.int .i64 tBs)) (fun _ hk => hk.2) (.int .i64 tBt)) (fun _ hk => hk.2) (.int .i64 tBv)) (fun _ hk => hk.2) (.slice Ao95 tBw.length co95)) (fun _ h_ => h_.1)))); (case side2 => exact (Kd.R_reads' HOBd.out).2.1); (case side3 => refine (Kd.R_reads' (e := 26) (base := w.heap.size) (ok := fun k_ => some k_ ≠ (.slice Ao83 tBg.length co83 : Value).ownBlock) (n := tBw.length) (c := co95) ?_).2.2; exact (by (with_reducible repeat (first | apply Kd.R_alloc | apply Kd.R_drewN | apply Kd.R_drew)); exact (Kd.R_mono (Kd.R_far (p := ⟨gbAd, 5, none⟩) (Kd.R_far (p := ⟨gbAd, 4, none⟩) (Kd.R_far (p := ⟨gbAd, 3, none⟩) (Kd.R_far (p := ⟨gbAd, 2, none⟩) (Kd.R_far (p := ⟨gbAd, 1, none⟩) (Kd.R_far (p := ⟨gbAd, 0, none⟩) (Kd.R_types HOBz.out BKAd.out (by decide)) (fun _ hk => hk.2) (.int .i64 tBe)) (fun _ hk => hk.2) (.int .i64 tBr)) (fun _ hk => hk.2) (.int .i64 tBs)) (fun _ hk => hk.2) (.int .i64 tBt)) (fun _ hk => hk.2) (.int .i64 tBv)) (fun _ hk => hk.2) (.slice Ao95 tBw.length co95)) (fun _ h_ => h_.1)))); (case side4 => exact (Kd.R_reads' HOBz.out).2.1); rintro e w106 ⟨rfl, hb⟩; have n0_ := Aside0.mk (Kd.R_below (by (with_reducible repeat (first | apply Kd.R_alloc | apply Kd.R_drewN | apply Kd.R_drew)); exact (Kd.R_mono (Kd.R_far (p := ⟨gbAd, 5, none⟩) (Kd.R_far (p := ⟨gbAd, 4, none⟩) (Kd.R_far (p := ⟨gbAd, 3, none⟩) (Kd.R_far (p := ⟨gbAd, 2, none⟩) (Kd.R_far (p := ⟨gbAd, 1, none⟩) (Kd.R_far (p := ⟨gbAd, 0, none⟩) (Kd.R_types HO_20.out BKAd.out (by decide)) (fun _ hk => hk.2) (.int .i64 tBe)) (fun _ hk => hk.2) (.int .i64 tBr)) (fun _ hk => hk.2) (.int .i64 tBs)) (fun _ hk => hk.2) (.int .i64 tBt)) (fun _ hk => hk.2) (.int .i64 tBv)) (fun _ hk => hk.2) (.slice Ao95 tBw.length co95)) (fun _ h_ => h_.1))) hb); have n1_ := Aside0.mk (Kd.R_below (by (with_reducible repeat (first | apply Kd.R_alloc | apply Kd.R_drewN | apply Kd.R_drew)); exact (Kd.R_mono (Kd.R_far (p := ⟨gbAd, 5, none⟩) (Kd.R_far (p := ⟨gbAd, 4, none⟩) (Kd.R_far (p := ⟨gbAd, 3, none⟩) (Kd.R_far (p := ⟨gbAd, 2, none⟩) (Kd.R_far (p := ⟨gbAd, 1, none⟩) (Kd.R_far (p := ⟨gbAd, 0, none⟩) (Kd.R_types HO_Ai005.out BKAd.out (by decide)) (fun _ hk => hk.2) (.int .i64 tBe)) (fun _ hk => hk.2) (.int .i64 tBr)) (fun _ hk => hk.2) (.int .i64 tBs)) (fun _ hk => hk.2) (.int .i64 tBt)) (fun _ hk => hk.2) (.int .i64 tBv)) (fun _ hk => hk.2) (.slice Ao95 tBw.length co95)) (fun _ h_ => h_.1))) hb); have n2_ := Aside0.mk (Kd.R_below (by (with_reducible repeat (first | apply Kd.R_alloc | apply Kd.R_drewN | apply Kd.R_drew)); exact (Kd.R_mono (Kd.R_far (p := ⟨gbAd, 5, none⟩) (Kd.R_far (p := ⟨gbAd, 4, none⟩) (Kd.R_far (p := ⟨gbAd, 3, none⟩) (Kd.R_far (p := ⟨gbAd, 2, none⟩) (Kd.R_far (p := ⟨gbAd, 1, none⟩) (Kd.R_far (p := ⟨gbAd, 0, none⟩) (Kd.R_types HOBd.out BKAd.out (by decide)) (fun _ hk => hk.2) (.int .i64 tBe)) (fun _ hk => hk.2) (.int .i64 tBr)) (fun _ hk => hk.2) (.int .i64 tBs)) (fun _ hk => hk.2) (.int .i64 tBt)) (fun _ hk => hk.2) (.int .i64 tBv)) (fun _ hk => hk.2) (.slice Ao95 tBw.length co95)) (fun _ h_ => h_.1))) hb); have n3_ := Aside0.mk (Kd.R_below (by (with_reducible repeat (first | apply Kd.R_alloc | apply Kd.R_drewN | apply Kd.R_drew)); exact (Kd.R_mono (Kd.R_far (p := ⟨gbAd, 5, none⟩) (Kd.R_far (p := ⟨gbAd, 4, none⟩) (Kd.R_far (p := ⟨gbAd, 3, none⟩) (Kd.R_far (p := ⟨gbAd, 2, none⟩) (Kd.R_far (p := ⟨gbAd, 1, none⟩) (Kd.R_far (p := ⟨gbAd, 0, none⟩) (Kd.R_types HOBz.out BKAd.out (by decide)) (fun _ hk => hk.2) (.int .i64 tBe)) (fun _ hk => hk.2) (.int .i64 tBr)) (fun _ hk => hk.2) (.int .i64 tBs)) (fun _ hk => hk.2) (.int .i64 tBt)) (fun _ hk => hk.2) (.int .i64 tBv)) (fun _ hk => hk.2) (.slice Ao95 tBw.length co95)) (fun _ h_ => h_.1))) hb); have n4_ := Aside0.mk (blk_below (g := gbAe) (o := .cells #[.int .i64 a0_0, .int .i64 a0_1, .int .i64 a0_2, .int .i64 a0_3, .int .i64 a0_4, .slice A0_5 l0_5.length c0_5] 24 (0, 0)) (by (with_reducible repeat (first | refine blk_drewN ?_ _ | refine blk_drew ?_ | refine blk_alloc ?_ _)); refine blk_far ?_ NBAe_Ad.out _; refine blk_far ?_ NBAe_Ad.out _; refine blk_far ?_ NBAe_Ad.out _; refine blk_far ?_ NBAe_Ad.out _; refine blk_far ?_ NBAe_Ad.out _; refine blk_far ?_ NBAe_Ad.out _; (with_reducible repeat (first | refine blk_drewN ?_ _ | refine blk_drew ?_ | refine blk_alloc ?_ _)); exact BKAe.out) hb); have n5_ := Aside0.mk (blk_below (g := gbAf) (o := .cells #[.int .i64 a1_0, .int .i64 a1_1, .int .i64 a1_2, .int .i64 a1_3, .int .i64 a1_4, .slice A1_5 l1_5.length c1_5] 29 (0, 0)) (by (with_reducible repeat (first | refine blk_drewN ?_ _ | refine blk_drew ?_ | refine blk_alloc ?_ _)); refine blk_far ?_ NBAf_Ad.out _; refine blk_far ?_ NBAf_Ad.out _; refine blk_far ?_ NBAf_Ad.out _; refine blk_far ?_ NBAf_Ad.out _; refine blk_far ?_ NBAf_Ad.out _; refine blk_far ?_ NBAf_Ad.out _; (with_reducible repeat (first | refine blk_drewN ?_ _ | refine blk_drew ?_ | refine blk_alloc ?_ _)); exact BKAf.out) hb); have n6_ := Aside0.mk (blk_below (g := gbAb) (o := .cells #[.int .i64 tAh, .int .i64 tAp, .int .i64 tAq, .int .i64 tAr, .int .i64 tAs, .slice Ao56 tAk.length co56] 24 (0, 0)) (by (with_reducible repeat (first | refine blk_drewN ?_ _ | refine blk_drew ?_ | refine blk_alloc ?_ _)); refine blk_far ?_ NBAb_Ad.out _; refine blk_far ?_ NBAb_Ad.out _; refine blk_far ?_ NBAb_Ad.out _; refine blk_far ?_ NBAb_Ad.out _; refine blk_far ?_ NBAb_Ad.out _; refine blk_far ?_ NBAb_Ad.out _; (with_reducible repeat (first | refine blk_drewN ?_ _ | refine blk_drew ?_ | refine blk_alloc ?_ _)); exact BKAb.out) hb); have n7_ := Aside0.mk (blk_below (g := gbAc) (o := .cells #[.int .i64 tBb, .int .i64 tBh, .int .i64 tBj, .int .i64 tBk, .int .i64 tBn, .slice Ao83 tBg.length co83] 29 (0, 0)) (by (with_reducible repeat (first | refine blk_drewN ?_ _ | refine blk_drew ?_ | refine blk_alloc ?_ _)); refine blk_far ?_ NBAc_Ad.out _; refine blk_far ?_ NBAc_Ad.out _; refine blk_far ?_ NBAc_Ad.out _; refine blk_far ?_ NBAc_Ad.out _; refine blk_far ?_ NBAc_Ad.out _; refine blk_far ?_ NBAc_Ad.out _; (with_reducible repeat (first | refine blk_drewN ?_ _ | refine blk_drew ?_ | refine blk_alloc ?_ _)); exact BKAc.out) hb); have n8_ := Aside0.mk (blk_below (g := gbAd) (o := .cells #[.int .i64 tBe, .int .i64 tBr, .int .i64 tBs, .int .i64 tBt, .int .i64 tBv, .slice Ao95 tBw.length co95] 29 (0, 0)) (by (with_reducible repeat (first | refine blk_drewN ?_ _ | refine blk_drew ?_ | refine blk_alloc ?_ _)); refine blk_put (cs := #[.int .i64 tBe, .int .i64 tBr, .int .i64 tBs, .int .i64 tBt, .int .i64 tBv, .slice none 0 0]) ?_ 5 _ rfl; refine blk_put (cs := #[.int .i64 tBe, .int .i64 tBr, .int .i64 tBs, .int .i64 tBt, .int .i64 0, .slice none 0 0]) ?_ 4 _ rfl; refine blk_put (cs := #[.int .i64 tBe, .int .i64 tBr, .int .i64 tBs, .int .i64 0, .int .i64 0, .slice none 0 0]) ?_ 3 _ rfl; refine blk_put (cs := #[.int .i64 tBe, .int .i64 tBr, .int .i64 0, .int .i64 0, .int .i64 0, .slice none 0 0]) ?_ 2 _ rfl; refine blk_put (cs := #[.int .i64 tBe, .int .i64 0, .int .i64 0, .int .i64 0, .int .i64 0, .slice none 0 0]) ?_ 1 _ rfl; refine blk_put (cs := #[.int .i64 0, .int .i64 0, .int .i64 0, .int .i64 0, .int .i64 0, .slice none 0 0]) ?_ 0 _ rfl; (with_reducible repeat (first | refine blk_drewN ?_ _ | refine blk_drew ?_ | refine blk_alloc ?_ _)); exact BKAd.out) hb); have n9_ := Aside0.mk (below_step (pH_ HB.out) hb); clear HO_20; clear HO_Ai005; clear HOBd; clear HOBz; clear BKAe; clear BKAf; clear BKAb; clear BKAc; clear BKAd; clear HB; have HO_20 := n0_; have HO_Ai005 := n1_; have HOBd := n2_; have HOBz := n3_; have BKAe := n4_; have BKAf := n5_; have BKAb := n6_; have BKAc := n7_; have BKAd := n8_; have HB := n9_; clear n0_ n1_ n2_ n3_ n4_ n5_ n6_ n7_ n8_ n9_; (try clear hb); (try clear hb2); (try clear hk); (try clear hi)))
   go_roundg k1
   case measure => have := HK1.out; omega
   case rel => exact ⟨(wrap64 (x21_1 + 1)), (by first | rfl | (simp; done) | (simp [*]; done)), H', ⟨by have := HK1.out; omega⟩, ⟨by (with_reducible repeat (first | apply Kd.R_alloc | apply Kd.R_drewN | apply Kd.R_drew)); exact HO_20.out⟩, ⟨by (with_reducible repeat (first | apply Kd.R_alloc | apply Kd.R_drewN | apply Kd.R_drew)); exact HO_Ai005.out⟩, ⟨by (with_reducible repeat (first | refine blk_drewN ?_ _ | refine blk_drew ?_ | refine blk_alloc ?_ _)); exact BKAe.out⟩, ⟨by (with_reducible repeat (first | refine blk_drewN ?_ _ | refine blk_drew ?_ | refine blk_alloc ?_ _)); exact BKAf.out⟩, ⟨by (with_reducible repeat (first | refine blk_drewN ?_ _ | refine blk_drew ?_ | refine blk_alloc ?_ _)); exact BKAb.out⟩, ⟨by repeat (first | (with_reducible first | exact HB.out | apply below_alloc | apply pw_below_drewN | apply below_drew1 | refine below_set ?_ GEAe.out | refine below_set ?_ GEAf.out | refine below_set ?_ GEAb.out | refine below_set ?_ GEAc.out | refine below_set ?_ GEAd.out) | exact HB.out)⟩⟩
def plaitinglaw5_FrameReads.Pure : Prop := ∀ (a0_0 : Int) (a0_1 : Int) (a0_2 : Int) (a0_3 : Int) (a0_4 : Int) (l0_5 : List Int) (a1_0 : Int) (a1_1 : Int) (a1_2 : Int) (a1_3 : Int) (a1_4 : Int) (l1_5 : List (S26)) (l2 : List Int) (a3 : Int) (a4 : Int) (l5 : List Int) (a6 : ByteArray), ((Lit.int .i64 a0_0).wf = true) → ((Lit.int .i64 a0_1).wf = true) → ((Lit.int .i64 a0_2).wf = true) → ((Lit.int .i64 a0_3).wf = true) → ((Lit.int .i64 a0_4).wf = true) → (l0_5.length ≤ maxLen ∧ ∀ y_ ∈ l0_5, (Lit.int .i64 y_).wf = true) → ((Lit.int .i64 a1_0).wf = true) → ((Lit.int .i64 a1_1).wf = true) → ((Lit.int .i64 a1_2).wf = true) → ((Lit.int .i64 a1_3).wf = true) → ((Lit.int .i64 a1_4).wf = true) → (l1_5.length ≤ maxLen ∧ ∀ y_ ∈ l1_5, ok26 y_) → (l2.length ≤ maxLen) → (l2.length * 8 ≤ 140737488351232) → (∀ y_ ∈ l2, (Lit.int .i64 y_).wf = true) → ((Lit.int .i64 a3).wf = true) → ((Lit.int .i64 a4).wf = true) → (l5.length ≤ maxLen) → (l5.length * 8 ≤ 140737488351232) → (∀ y_ ∈ l5, (Lit.int .i64 y_).wf = true) → (a6.size ≤ 140737488351232) → ∃ k, plaitinglaw5_FrameReads.f k a0_0 a0_1 a0_2 a0_3 a0_4 l0_5 a1_0 a1_1 a1_2 a1_3 a1_4 l1_5 l2 a3 a4 l5 a6 = some true
theorem plaitinglaw5_FrameReads.walk (P : plaitinglaw5_FrameReads.Pure) (a0_0 : Int) (a0_1 : Int) (a0_2 : Int) (a0_3 : Int) (a0_4 : Int) (A0_5 : Option Addr) (c0_5 : Nat) (l0_5 : List Int) (a1_0 : Int) (a1_1 : Int) (a1_2 : Int) (a1_3 : Int) (a1_4 : Int) (A1_5 : Option Addr) (c1_5 : Nat) (l1_5 : List (S26)) (A2 : Option Addr) (c2 : Nat) (l2 : List Int) (a3 : Int) (a4 : Int) (A5 : Option Addr) (c5 : Nat) (l5 : List Int) (a6 : ByteArray) (w : World) (q0 : (Lit.int .i64 a0_0).wf = true) (q1 : (Lit.int .i64 a0_1).wf = true) (q2 : (Lit.int .i64 a0_2).wf = true) (q3 : (Lit.int .i64 a0_3).wf = true) (q4 : (Lit.int .i64 a0_4).wf = true) (q5 : l0_5.length ≤ maxLen ∧ ∀ y_ ∈ l0_5, (Lit.int .i64 y_).wf = true) (q6 : (Lit.int .i64 a1_0).wf = true) (q7 : (Lit.int .i64 a1_1).wf = true) (q8 : (Lit.int .i64 a1_2).wf = true) (q9 : (Lit.int .i64 a1_3).wf = true) (q10 : (Lit.int .i64 a1_4).wf = true) (q11 : l1_5.length ≤ maxLen ∧ ∀ y_ ∈ l1_5, ok26 y_) (q12 : l2.length ≤ maxLen) (q13 : l2.length * 8 ≤ 140737488351232) (q14 : ∀ y_ ∈ l2, (Lit.int .i64 y_).wf = true) (q15 : (Lit.int .i64 a3).wf = true) (q16 : (Lit.int .i64 a4).wf = true) (q17 : l5.length ≤ maxLen) (q18 : l5.length * 8 ≤ 140737488351232) (q19 : ∀ y_ ∈ l5, (Lit.int .i64 y_).wf = true) (q20 : a6.size ≤ 140737488351232) (hr0_5 : Kd.C (Kd.int .i64) w A0_5 l0_5.length l0_5) (hc0_5 : l0_5.length ≤ c0_5) (hr1_5 : Kd.C k26 w A1_5 l1_5.length l1_5) (hc1_5 : l1_5.length ≤ c1_5) (hr2 : Kd.C (Kd.int .i64) w A2 l2.length l2) (hc2 : l2.length ≤ c2) (hr5 : Kd.C (Kd.int .i64) w A5 l5.length l5) (hc5 : l5.length ≤ c5) :
  Calls Try.prog 7 #[.agg #[.int .i64 a0_0, .int .i64 a0_1, .int .i64 a0_2, .int .i64 a0_3, .int .i64 a0_4, .slice A0_5 l0_5.length c0_5], .agg #[.int .i64 a1_0, .int .i64 a1_1, .int .i64 a1_2, .int .i64 a1_3, .int .i64 a1_4, .slice A1_5 l1_5.length c1_5], .slice A2 l2.length c2, .int .i64 a3, .int .i64 a4, .slice A5 l5.length c5, .string a6] w fun e w' => e = .returned (.bool true) ∧ Below w.heap.size w w' := by
 obtain ⟨k, h⟩ := P a0_0 a0_1 a0_2 a0_3 a0_4 l0_5 a1_0 a1_1 a1_2 a1_3 a1_4 l1_5 l2 a3 a4 l5 a6 q0 q1 q2 q3 q4 q5 q6 q7 q8 q9 q10 q11 q12 q13 q14 q15 q16 q17 q18 q19 q20
 refine (plaitinglaw5_FrameReads.calls k a0_0 a0_1 a0_2 a0_3 a0_4 A0_5 c0_5 l0_5 a1_0 a1_1 a1_2 a1_3 a1_4 A1_5 c1_5 l1_5 A2 c2 l2 a3 a4 A5 c5 l5 a6 true w hr0_5 hc0_5 hr1_5 hc1_5 hr2 hc2 hr5 hc5 rfl h).mono ?_
 rintro e w' ⟨rfl, hd⟩
 exact ⟨rfl, hd⟩
end Go.Proofs.Ytcpohmfkmgcjkaa.P
