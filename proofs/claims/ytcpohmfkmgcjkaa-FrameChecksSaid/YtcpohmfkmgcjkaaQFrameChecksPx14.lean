/- Printed by a program of this session (myprint) out of the translation: the functions as plain Lean functions, and that the calls compute them. What counts is Lean's check. -/
import Derived.Test.YtcpohmfkmgcjkaaQFrameChecksOks
import Derived.Test.YtcpohmfkmgcjkaaQFrameChecksPx0
import Derived.Test.YtcpohmfkmgcjkaaQFrameChecksPx1
import Derived.Test.YtcpohmfkmgcjkaaQFrameChecksPx8
import Derived.Test.YtcpohmfkmgcjkaaQFrameChecksPx10
import Derived.Test.YtcpohmfkmgcjkaaQFrameChecksPx11
import Derived.Test.YtcpohmfkmgcjkaaQFrameChecksPx12
import Derived.Test.YtcpohmfkmgcjkaaQFrameChecksPx13
import Derived.Test.YtcpohmfkmgcjkaaQFrameChecksShort
namespace Go.Proofs.Ytcpohmfkmgcjkaa.P
open Go.RowKit Go.Proofs.YtcpohmfkmgcjkaaW.PrintWords Go.Proofs.YtcpohmfkmgcjkaaW.PrintLast Go.Proofs.YtcpohmfkmgcjkaaW.PrintMore
attribute [local go_sem] max2_int min2_int max_two min_two max_three min_three max_four min_four
set_option linter.unusedVariables false
set_option linter.unusedSimpArgs false
attribute [-simp] ByteArray.size_extract ByteArray.size_append ByteArray.extract_append_extract
attribute [-go_sem] ByteArray.size_append'
mutual
def plaitinglaw5_FrameChecks.j0 : Nat → List Int → Int → Int → Bool → Int → Int → Int → Int → Int → List Int → Int → Int → Int → Int → Int → List (S26) → Option (Bool)
 | 0, _, _, _, _, _, _, _, _, _, _, _, _, _, _, _, _ => none
 | k + 1, x2, x3, x4, x23, xAd000, xAd001, xAd002, xAd003, xAd004, xAd005, xBb000, xBb001, xBb002, xBb003, xBb004, xBb005 => if x23 = true then (some true) else ((plaitinglaw3_Make.f k xAd000 xAd001 xAd002 xAd003 xAd004 xAd005).bind fun btAg => ((plaitinglaw5_Make.f k btAg.1 btAg.2.1 btAg.2.2.1 btAg.2.2.2.1 btAg.2.2.2.2.1 btAg.2.2.2.2.2 xBb000 xBb001 xBb002 xBb003 xBb004 xBb005 x2).bind fun btAc => ((frame_Check.f btAg.1 btAg.2.1 btAg.2.2.1 btAg.2.2.2.1 btAg.2.2.2.2.1 btAg.2.2.2.2.2 xBb000 xBb001 xBb002 xBb003 xBb004 xBb005).bind fun tAf => ((plaitingref5_Check.f k btAg.1 btAg.2.1 btAg.2.2.1 btAg.2.2.2.1 btAg.2.2.2.2.1 btAg.2.2.2.2.2 xBb000 xBb001 xBb002 xBb003 xBb004 xBb005).bind fun tBk => (if tAf = tBk then ((frame_Check.f btAg.1 btAg.2.1 btAg.2.2.1 btAg.2.2.2.1 btAg.2.2.2.2.1 btAg.2.2.2.2.2 btAc.1 btAc.2.1 btAc.2.2.1 btAc.2.2.2.1 btAc.2.2.2.2.1 btAc.2.2.2.2.2).bind fun tBq => (plaitinglaw5_FrameChecks.j1 k x3 x4 (tBq != 0) xBb000 xBb001 xBb002 xBb003 xBb004 xBb005 btAg.1 btAg.2.1 btAg.2.2.1 btAg.2.2.2.1 btAg.2.2.2.2.1 btAg.2.2.2.2.2 btAc.1 btAc.2.1 btAc.2.2.1 btAc.2.2.2.1 btAc.2.2.2.2.1 btAc.2.2.2.2.2)) else (plaitinglaw5_FrameChecks.j1 k x3 x4 true xBb000 xBb001 xBb002 xBb003 xBb004 xBb005 btAg.1 btAg.2.1 btAg.2.2.1 btAg.2.2.2.1 btAg.2.2.2.2.1 btAg.2.2.2.2.2 btAc.1 btAc.2.1 btAc.2.2.1 btAc.2.2.2.1 btAc.2.2.2.2.1 btAc.2.2.2.2.2))))))
def plaitinglaw5_FrameChecks.j1 : Nat → Int → Int → Bool → Int → Int → Int → Int → Int → List (S26) → Int → Int → Int → Int → Int → List Int → Int → Int → Int → Int → Int → List (S26) → Option (Bool)
 | 0, _, _, _, _, _, _, _, _, _, _, _, _, _, _, _, _, _, _, _, _, _ => none
 | k + 1, x3, x4, x42, xBb000, xBb001, xBb002, xBb003, xBb004, xBb005, xAc000, xAc001, xAc002, xAc003, xAc004, xAc005, xAf000, xAf001, xAf002, xAf003, xAf004, xAf005 => if x42 = true then (some false) else ((plaitinglaw5_within.f x3 8).bind fun tAt => (if tAt = 0 then ((frame_Check.f xAc000 xAc001 xAc002 xAc003 xAc004 xAc005 x4 xAf001 xAf002 xAf003 xAf004 xAf005).bind fun tCp => ((plaitingref5_Check.f k xAc000 xAc001 xAc002 xAc003 xAc004 xAc005 x4 xAf001 xAf002 xAf003 xAf004 xAf005).bind fun tCi => (some (tCp == tCi)))) else (if tAt = 1 then ((some (([(-1), 65536, x4] : List Int) : List Int)).bind fun yAx => ((plaitinglaw5_within.f x4 3).bind fun tAz => (if 0 ≤ tAz then (if tAz < (yAx.length : Int) then ((frame_Check.f xAc000 xAc001 xAc002 xAc003 xAc004 xAc005 xAf000 (rd yAx tAz) xAf002 xAf003 xAf004 xAf005).bind fun tCa => ((plaitingref5_Check.f k xAc000 xAc001 xAc002 xAc003 xAc004 xAc005 xAf000 (rd yAx tAz) xAf002 xAf003 xAf004 xAf005).bind fun tBw => (some (tCa == tBw)))) else (none)) else (none)))) else (if tAt = 2 then ((plaitingref3_Slots.f xAc000 xAc001 xAc002 xAc003 xAc004 xAc005).bind fun tBm => ((some (([(-1), tBm, x4, xAc000] : List Int) : List Int)).bind fun yAu => ((plaitinglaw5_within.f x4 4).bind fun tAv => (if 0 ≤ tAv then (if tAv < (yAu.length : Int) then ((frame_Check.f xAc000 xAc001 xAc002 xAc003 xAc004 xAc005 xAf000 xAf001 (rd yAu tAv) xAf003 xAf004 xAf005).bind fun tBs => ((plaitingref5_Check.f k xAc000 xAc001 xAc002 xAc003 xAc004 xAc005 xAf000 xAf001 (rd yAu tAv) xAf003 xAf004 xAf005).bind fun tBn => (some (tBs == tBn)))) else (none)) else (none))))) else (if tAt = 3 then ((plaitinglaw5_within.f x4 5).bind fun tBg => ((frame_Check.f xAc000 xAc001 xAc002 xAc003 xAc004 xAc005 xAf000 xAf001 xAf002 (wrap64 (tBg - 1)) xAf004 xAf005).bind fun tCg => ((plaitingref5_Check.f k xAc000 xAc001 xAc002 xAc003 xAc004 xAc005 xAf000 xAf001 xAf002 (wrap64 (tBg - 1)) xAf004 xAf005).bind fun tCe => (some (tCg == tCe))))) else (if tAt = 4 then ((some (([(-1), 256, 1, x4] : List Int) : List Int)).bind fun yAy => ((plaitinglaw5_within.f x4 4).bind fun tBa => (if 0 ≤ tBa then (if tBa < (yAy.length : Int) then ((frame_Check.f xAc000 xAc001 xAc002 xAc003 xAc004 xAc005 xAf000 xAf001 xAf002 xAf003 (rd yAy tBa) xAf005).bind fun tCc => ((plaitingref5_Check.f k xAc000 xAc001 xAc002 xAc003 xAc004 xAc005 xAf000 xAf001 xAf002 xAf003 (rd yAy tBa) xAf005).bind fun tBx => (some (tCc == tBx)))) else (none)) else (none)))) else (if tAt = 5 then ((some (([] : List (S26)) : List (S26))).bind fun yBj => (if yBj.length + xAf005.length < 8796093022208 then ((some (yBj ++ xAf005 : List (S26))).bind fun yBi => (if yBi.length < 8796093022208 then ((some (yBi ++ [(⟨0, 0⟩ : S26)] : List (S26))).bind fun yBd => ((frame_Check.f xAc000 xAc001 xAc002 xAc003 xAc004 xAc005 xAf000 xAf001 xAf002 xAf003 xAf004 yBd).bind fun tBv => ((plaitingref5_Check.f k xAc000 xAc001 xAc002 xAc003 xAc004 xAc005 xAf000 xAf001 xAf002 xAf003 xAf004 yBd).bind fun tBp => (some (tBv == tBp))))) else (none))) else (none))) else (if tAt = 6 then (if (xAf005.length : Int) > 0 then ((plaitinglaw5_within.f x4 (xAf005.length : Int)).bind fun tAw => (if 0 ≤ tAw then (if tAw < (xAf005.length : Int) then ((some (xAf005.set (tAw : Int).toNat (⟨xBb003, xBb004⟩ : S26) : List (S26))).bind fun yBf => ((frame_Check.f xAc000 xAc001 xAc002 xAc003 xAc004 xAc005 xAf000 xAf001 xAf002 xAf003 xAf004 yBf).bind fun tCd => ((plaitingref5_Check.f k xAc000 xAc001 xAc002 xAc003 xAc004 xAc005 xAf000 xAf001 xAf002 xAf003 xAf004 yBf).bind fun tBy => (some (tCd == tBy))))) else (none)) else (none))) else ((frame_Check.f xAc000 xAc001 xAc002 xAc003 xAc004 xAc005 xAf000 xAf001 xAf002 xAf003 xAf004 xAf005).bind fun tCq => ((plaitingref5_Check.f k xAc000 xAc001 xAc002 xAc003 xAc004 xAc005 xAf000 xAf001 xAf002 xAf003 xAf004 xAf005).bind fun tCk => (some (tCq == tCk))))) else (if tAt = 7 then ((frame_Check.f xAc000 xAc001 xAc002 xAc003 xAc004 xAc005 xAf000 xAf001 xAf002 xAf003 xAf004 ([] : List (S26))).bind fun tCr => ((plaitingref5_Check.f k xAc000 xAc001 xAc002 xAc003 xAc004 xAc005 xAf000 xAf001 xAf002 xAf003 xAf004 ([] : List (S26))).bind fun tCm => (some (tCr == tCm)))) else ((frame_Check.f xAc000 xAc001 xAc002 xAc003 xAc004 xAc005 xAf000 xAf001 xAf002 xAf003 xAf004 xAf005).bind fun tCs => ((plaitingref5_Check.f k xAc000 xAc001 xAc002 xAc003 xAc004 xAc005 xAf000 xAf001 xAf002 xAf003 xAf004 xAf005).bind fun tCn => (some (tCs == tCn)))))))))))))
end
def plaitinglaw5_FrameChecks.f (k : Nat) (a0_0 : Int) (a0_1 : Int) (a0_2 : Int) (a0_3 : Int) (a0_4 : Int) (l0_5 : List Int) (a1_0 : Int) (a1_1 : Int) (a1_2 : Int) (a1_3 : Int) (a1_4 : Int) (l1_5 : List (S26)) (l2 : List Int) (a3 : Int) (a4 : Int) : Option (Bool) := (plaitinglaw5_known.f).bind fun tBb => (if tBb = true then ((plaitinglaw5_Few.f a1_0 a1_1 a1_2 a1_3 a1_4 l1_5).bind fun tCh => (if tCh = true then (plaitinglaw5_FrameChecks.j0 k l2 a3 a4 (decide ((l0_5.length : Int) > 10)) a0_0 a0_1 a0_2 a0_3 a0_4 l0_5 a1_0 a1_1 a1_2 a1_3 a1_4 l1_5) else (plaitinglaw5_FrameChecks.j0 k l2 a3 a4 true a0_0 a0_1 a0_2 a0_3 a0_4 l0_5 a1_0 a1_1 a1_2 a1_3 a1_4 l1_5))) else (some false))
def plaitinglaw5_FrameChecks.T7 : Bool × List (List Nat × List Nat) := (true, [([], []), ([], []), ([0, 1], [0, 1]), ([], []), ([], []), ([3, 4, 2], [3, 4]), ([2, 5], [2, 5]), ([6, 5], [6]), ([7], [7]), ([7], [7]), ([8, 9, 7, 7], [7, 8, 9]), ([10, 7], [7, 10]), ([7, 11], [7, 11])])
def plaitinglaw5_FrameChecks.B7 : List Nat := [0, 0, 3, 0, 0, 31, 63, 127, 255, 255, 1023, 2047, 4095]
theorem plaitinglaw5_FrameChecks.tab7 : rtab .any (opsOf Try.f3 7) = plaitinglaw5_FrameChecks.T7 := by kernel_rfl
theorem plaitinglaw5_FrameChecks.bits7 : waitsOk plaitinglaw5_FrameChecks.T7.2 plaitinglaw5_FrameChecks.B7 = true := by kernel_rfl
def plaitinglaw5_FrameChecks.T15 : Bool × List (List Nat × List Nat) := (true, [([], []), ([0], [0]), ([], []), ([], []), ([3], [3]), ([1, 2, 4], [1, 2, 4]), ([], []), ([6, 1], [6]), ([5, 7], [5, 7]), ([8], [8]), ([0, 1, 2, 3, 4, 5, 6, 7, 8, 9], []), ([10, 9, 7, 0, 1, 2, 3, 4, 5, 6, 7, 8, 9], [9, 10])])
def plaitinglaw5_FrameChecks.B15 : List Nat := [0, 1, 0, 0, 8, 31, 0, 67, 255, 511, 1023, 2047]
theorem plaitinglaw5_FrameChecks.tab15 : rtab .any (opsOf Try.f3 15) = plaitinglaw5_FrameChecks.T15 := by kernel_rfl
theorem plaitinglaw5_FrameChecks.bits15 : waitsOk plaitinglaw5_FrameChecks.T15.2 plaitinglaw5_FrameChecks.B15 = true := by kernel_rfl
def plaitinglaw5_FrameChecks.T24 : Bool × List (List Nat × List Nat) := (true, [([], []), ([0], [0]), ([], []), ([], []), ([3], [3]), ([4], [4]), ([2, 5], [2, 5]), ([], []), ([7], [7]), ([1, 6, 0, 1, 2, 3, 4, 5, 6, 7, 8], [1, 6]), ([9, 8, 6, 0, 1, 2, 3, 4, 5, 6, 7, 8], [8, 9])])
def plaitinglaw5_FrameChecks.B24 : List Nat := [0, 1, 0, 0, 8, 24, 60, 0, 128, 511, 1023]
theorem plaitinglaw5_FrameChecks.tab24 : rtab .any (opsOf Try.f3 24) = plaitinglaw5_FrameChecks.T24 := by kernel_rfl
theorem plaitinglaw5_FrameChecks.bits24 : waitsOk plaitinglaw5_FrameChecks.T24.2 plaitinglaw5_FrameChecks.B24 = true := by kernel_rfl
def plaitinglaw5_FrameChecks.T27 : Bool × List (List Nat × List Nat) := (true, [([], []), ([], []), ([0, 1], [0, 1]), ([], []), ([], []), ([3, 4, 2], [3, 4]), ([2, 5], [2, 5]), ([6, 5, 0, 1, 2, 3, 4, 5, 6], [6])])
def plaitinglaw5_FrameChecks.B27 : List Nat := [0, 0, 3, 0, 0, 31, 63, 127]
theorem plaitinglaw5_FrameChecks.tab27 : rtab .any (opsOf Try.f3 27) = plaitinglaw5_FrameChecks.T27 := by kernel_rfl
theorem plaitinglaw5_FrameChecks.bits27 : waitsOk plaitinglaw5_FrameChecks.T27.2 plaitinglaw5_FrameChecks.B27 = true := by kernel_rfl
set_option maxHeartbeats 8000000 in
set_option maxRecDepth 100000 in
theorem plaitinglaw5_FrameChecks.calls (k : Nat) (a0_0 : Int) (a0_1 : Int) (a0_2 : Int) (a0_3 : Int) (a0_4 : Int) (A0_5 : Option Addr) (c0_5 : Nat) (l0_5 : List Int) (a1_0 : Int) (a1_1 : Int) (a1_2 : Int) (a1_3 : Int) (a1_4 : Int) (A1_5 : Option Addr) (c1_5 : Nat) (l1_5 : List (S26)) (A2 : Option Addr) (c2 : Nat) (l2 : List Int) (a3 : Int) (a4 : Int) (r : Bool) (w : World) (hr0_5 : Kd.C (Kd.int .i64) w A0_5 l0_5.length l0_5) (hc0_5 : l0_5.length ≤ c0_5) (hr1_5 : Kd.C k26 w A1_5 l1_5.length l1_5) (hc1_5 : l1_5.length ≤ c1_5) (hr2 : Kd.C (Kd.int .i64) w A2 l2.length l2) (hc2 : l2.length ≤ c2) (hrt : r = true) (h : plaitinglaw5_FrameChecks.f k a0_0 a0_1 a0_2 a0_3 a0_4 l0_5 a1_0 a1_1 a1_2 a1_3 a1_4 l1_5 l2 a3 a4 = some r) :
  Calls Try.prog 3 #[.agg #[.int .i64 a0_0, .int .i64 a0_1, .int .i64 a0_2, .int .i64 a0_3, .int .i64 a0_4, .slice A0_5 l0_5.length c0_5], .agg #[.int .i64 a1_0, .int .i64 a1_1, .int .i64 a1_2, .int .i64 a1_3, .int .i64 a1_4, .slice A1_5 l1_5.length c1_5], .slice A2 l2.length c2, .int .i64 a3, .int .i64 a4] w fun e w' => e = .returned (.bool r) ∧ Below w.heap.size w w' := by
 have HRT := Aside0.mk hrt
 clear hrt
 have hu24 := Try.underlying24
 have hu29 := Try.underlying29
 have hu26 := Try.underlying26
 have HR0_5 := Aside0.mk hr0_5
 have HC0_5 := Aside0.mk hc0_5
 clear hr0_5 hc0_5
 have HR1_5 := Aside0.mk hr1_5
 have HC1_5 := Aside0.mk hc1_5
 clear hr1_5 hc1_5
 have HR2 := Aside0.mk hr2
 have HC2 := Aside0.mk hc2
 clear hr2 hc2
 have HB := Aside0.mk (Below.refl w.heap.size w)
 have H : ((plaitinglaw5_known.f).bind fun tBb => (if tBb = true then ((plaitinglaw5_Few.f a1_0 a1_1 a1_2 a1_3 a1_4 l1_5).bind fun tCh => (if tCh = true then (plaitinglaw5_FrameChecks.j0 k l2 a3 a4 (decide ((l0_5.length : Int) > 10)) a0_0 a0_1 a0_2 a0_3 a0_4 l0_5 a1_0 a1_1 a1_2 a1_3 a1_4 l1_5) else (plaitinglaw5_FrameChecks.j0 k l2 a3 a4 true a0_0 a0_1 a0_2 a0_3 a0_4 l0_5 a1_0 a1_1 a1_2 a1_3 a1_4 l1_5))) else (some false))) = some r := h
 clear h
 replace H := Option.bind_eq_some_iff.mp H
 obtain ⟨tBb, A60, H⟩ := H
 replace H : (if tBb = true then ((plaitinglaw5_Few.f a1_0 a1_1 a1_2 a1_3 a1_4 l1_5).bind fun tCh => (if tCh = true then (plaitinglaw5_FrameChecks.j0 k l2 a3 a4 (decide ((l0_5.length : Int) > 10)) a0_0 a0_1 a0_2 a0_3 a0_4 l0_5 a1_0 a1_1 a1_2 a1_3 a1_4 l1_5) else (plaitinglaw5_FrameChecks.j0 k l2 a3 a4 true a0_0 a0_1 a0_2 a0_3 a0_4 l0_5 a1_0 a1_1 a1_2 a1_3 a1_4 l1_5))) else (some false)) = some r := H
 have A6 := Aside0.mk A60
 clear A60
 by_cases c7 : tBb = true
 rotate_left
 ·
  replace c7 := Bool.eq_false_iff.mpr c7
  subst c7
  have H1 : (some false) = some r := by rw [if_neg (show ¬ (false = true) by decide)] at H; exact H
  clear H
  have H := H1
  clear H1
  exact absurd ((Option.some.inj H).trans HRT.out) (by decide)
 subst c7
 have H1 : ((plaitinglaw5_Few.f a1_0 a1_1 a1_2 a1_3 a1_4 l1_5).bind fun tCh => (if tCh = true then (plaitinglaw5_FrameChecks.j0 k l2 a3 a4 (decide ((l0_5.length : Int) > 10)) a0_0 a0_1 a0_2 a0_3 a0_4 l0_5 a1_0 a1_1 a1_2 a1_3 a1_4 l1_5) else (plaitinglaw5_FrameChecks.j0 k l2 a3 a4 true a0_0 a0_1 a0_2 a0_3 a0_4 l0_5 a1_0 a1_1 a1_2 a1_3 a1_4 l1_5))) = some r := by rw [if_pos rfl] at H; exact H
 clear H
 have H := H1
 clear H1
 have HC8 := Aside0.mk H
 clear H
 go_enter Try.func3, Try.ntmps3
 go_upto_region 3 with (first | ((with_reducible refine gate_dst (N := 5) rfl ?_); (try (refine gate_guard (by rfl) ?_; dsimp only)); refine box_event ?hg (N := 5) ?hd (cs := #[.int .i64 a0_0, .int .i64 a0_1, .int .i64 a0_2, .int .i64 a0_3, .int .i64 a0_4, .slice A0_5 l0_5.length c0_5]) (t := 24) ?hr ?_; (case hd => rfl); (case hg => rfl); (case hr => first | (go_simp; done) | (go_simp; rfl)); intro gbAe hg w9 hbox hb; have BKAe := Aside0.mk (hbox); have GWAe := Aside0.mk ((by rw [hg]; exact (below_size (pH_ HB.out)) : w.heap.size ≤ gbAe)); have GEAe := Aside0.mk ((by rw [hg]; exact (below_size (pH_ HB.out)) : w.heap.size ≤ gbAe)); replace HB := Aside0.mk (below_step (pH_ HB.out) hb); clear hb hbox hg) | ((with_reducible refine gate_dst (N := 6) rfl ?_); (try (refine gate_guard (by rfl) ?_; dsimp only)); refine box_event ?hg (N := 6) ?hd (cs := #[.int .i64 a1_0, .int .i64 a1_1, .int .i64 a1_2, .int .i64 a1_3, .int .i64 a1_4, .slice A1_5 l1_5.length c1_5]) (t := 29) ?hr ?_; (case hd => rfl); (case hg => rfl); (case hr => first | (go_simp; done) | (go_simp; rfl)); intro gbAd hg w10 hbox hb; have BKAd := Aside0.mk (hbox); have GWAd := Aside0.mk ((by rw [hg]; exact (below_size (pH_ HB.out)) : w.heap.size ≤ gbAd)); have GEAd := Aside0.mk ((by rw [hg]; exact (below_size (pH_ HB.out)) : w.heap.size ≤ gbAd)); have NBAe_Ad := Aside0.mk (ltB_ hg BKAe.out); have NBAd_Ae := Aside0.mk (ltB_ hg BKAe.out).symm; replace BKAe := Aside0.mk (blk_below (pB_ BKAe.out) hb); replace HB := Aside0.mk (below_step (pH_ HB.out) hb); clear hb hbox hg) | ((with_reducible refine gate_callee (f := 18) rfl ?_); refine gL_ 13 Try.func18 #[] ?_; (with_reducible refine (plaitinglaw5_known.calls  true _ A6.out).mono ?_); rintro e w11 ⟨rfl, hb⟩; refine ⟨_, rfl, ?_⟩; replace BKAe := Aside0.mk (blk_below (pB_ BKAe.out) hb); replace BKAd := Aside0.mk (blk_below (pB_ BKAd.out) hb); replace HB := Aside0.mk (below_step (pH_ HB.out) hb); (try clear hb); (try clear hb2); (try clear hk); (try clear hi)))
 (try simp only [Act.put, List.setIfInBounds_toArray, List.set_cons_zero, List.set_cons_succ])
 go_cut [23] (fun v23 wc => ∃ (kq : Nat) (x23_7 : Bool), v23 = .bool x23_7 ∧ Aside0 (plaitinglaw5_FrameChecks.j0 kq l2 a3 a4 x23_7 a0_0 a0_1 a0_2 a0_3 a0_4 l0_5 a1_0 a1_1 a1_2 a1_3 a1_4 l1_5 = some r) ∧ Aside0 (kq ≤ k) ∧ Aside0 (wc.heap[gbAe]? = some (.cells #[.int .i64 a0_0, .int .i64 a0_1, .int .i64 a0_2, .int .i64 a0_3, .int .i64 a0_4, (.slice A0_5 l0_5.length c0_5)] 24 (0, 0))) ∧ Aside0 (wc.heap[gbAd]? = some (.cells #[.int .i64 a1_0, .int .i64 a1_1, .int .i64 a1_2, .int .i64 a1_3, .int .i64 a1_4, (.slice A1_5 l1_5.length c1_5)] 29 (0, 0))) ∧ Aside0 (Below w.heap.size w wc))
 case first =>
  have H := HC8.out
  clear HC8
  replace H := Option.bind_eq_some_iff.mp H
  obtain ⟨tCh, A120, H⟩ := H
  replace H : (if tCh = true then (plaitinglaw5_FrameChecks.j0 k l2 a3 a4 (decide ((l0_5.length : Int) > 10)) a0_0 a0_1 a0_2 a0_3 a0_4 l0_5 a1_0 a1_1 a1_2 a1_3 a1_4 l1_5) else (plaitinglaw5_FrameChecks.j0 k l2 a3 a4 true a0_0 a0_1 a0_2 a0_3 a0_4 l0_5 a1_0 a1_1 a1_2 a1_3 a1_4 l1_5)) = some r := H
  have A12 := Aside0.mk A120
  clear A120
  by_cases c13 : tCh = true
  ·
   subst c13
   have H1 : (plaitinglaw5_FrameChecks.j0 k l2 a3 a4 (decide ((l0_5.length : Int) > 10)) a0_0 a0_1 a0_2 a0_3 a0_4 l0_5 a1_0 a1_1 a1_2 a1_3 a1_4 l1_5) = some r := by rw [if_pos rfl] at H; exact H
   clear H
   have H := H1
   clear H1
   have H' := Aside0.mk H
   clear H
   have hnb14 := NBAd_Ae.out
   have hnc14 := NBAe_Ad.out
   have hcz15_0 : w11.cell? ⟨gbAd, 0, none⟩ = some (.int .i64 a1_0) := (blk_cell BKAd.out 0).trans rfl
   have hcz15_1 : w11.cell? ⟨gbAd, 1, none⟩ = some (.int .i64 a1_1) := (blk_cell BKAd.out 1).trans rfl
   have hcz15_2 : w11.cell? ⟨gbAd, 2, none⟩ = some (.int .i64 a1_2) := (blk_cell BKAd.out 2).trans rfl
   have hcz15_3 : w11.cell? ⟨gbAd, 3, none⟩ = some (.int .i64 a1_3) := (blk_cell BKAd.out 3).trans rfl
   have hcz15_4 : w11.cell? ⟨gbAd, 4, none⟩ = some (.int .i64 a1_4) := (blk_cell BKAd.out 4).trans rfl
   have hcz15_5 : w11.cell? ⟨gbAd, 5, none⟩ = some (.slice A1_5 l1_5.length c1_5) := (blk_cell BKAd.out 5).trans rfl
   have hfz15_0 := blk_frozen BKAd.out 0
   have hfz15_1 := blk_frozen BKAd.out 1
   have hfz15_2 := blk_frozen BKAd.out 2
   have hfz15_3 := blk_frozen BKAd.out 3
   have hfz15_4 := blk_frozen BKAd.out 4
   have hfz15_5 := blk_frozen BKAd.out 5
   go_wp2_with (first | ((with_reducible refine gate_callee (f := 19) rfl ?_); refine gL_ 16 Try.func19 #[.agg #[.int .i64 a1_0, .int .i64 a1_1, .int .i64 a1_2, .int .i64 a1_3, .int .i64 a1_4, .slice A1_5 l1_5.length c1_5]] ?_; (with_reducible refine (plaitinglaw5_Few.calls a1_0 a1_1 a1_2 a1_3 a1_4 _ _ l1_5 true _ ?side1 ?side2 A12.out).mono ?_); (case side1 => exact cC_ (Kd.C_below HR1_5.out HB.out)); (case side2 => exact HC1_5.out); rintro e w16 ⟨rfl, hb⟩; refine ⟨_, rfl, ?_⟩; replace BKAe := Aside0.mk (blk_below (pB_ BKAe.out) hb); replace BKAd := Aside0.mk (blk_below (pB_ BKAd.out) hb); replace HB := Aside0.mk (below_step (pH_ HB.out) hb); (try clear hb); (try clear hb2); (try clear hk); (try clear hi); have hcz17_0 : w16.cell? ⟨gbAe, 0, none⟩ = some (.int .i64 a0_0) := (blk_cell BKAe.out 0).trans rfl; have hcz17_1 : w16.cell? ⟨gbAe, 1, none⟩ = some (.int .i64 a0_1) := (blk_cell BKAe.out 1).trans rfl; have hcz17_2 : w16.cell? ⟨gbAe, 2, none⟩ = some (.int .i64 a0_2) := (blk_cell BKAe.out 2).trans rfl; have hcz17_3 : w16.cell? ⟨gbAe, 3, none⟩ = some (.int .i64 a0_3) := (blk_cell BKAe.out 3).trans rfl; have hcz17_4 : w16.cell? ⟨gbAe, 4, none⟩ = some (.int .i64 a0_4) := (blk_cell BKAe.out 4).trans rfl; have hcz17_5 : w16.cell? ⟨gbAe, 5, none⟩ = some (.slice A0_5 l0_5.length c0_5) := (blk_cell BKAe.out 5).trans rfl; have hfz17_0 := blk_frozen BKAe.out 0; have hfz17_1 := blk_frozen BKAe.out 1; have hfz17_2 := blk_frozen BKAe.out 2; have hfz17_3 := blk_frozen BKAe.out 3; have hfz17_4 := blk_frozen BKAe.out 4; have hfz17_5 := blk_frozen BKAe.out 5))
   go_meet
   case rel => exact ⟨_, (decide ((l0_5.length : Int) > 10)), (by first | rfl | (simp; done) | (simp [*]; done)), H', ⟨by first | omega | exact Nat.le_refl _⟩, ⟨by (with_reducible repeat (first | refine blk_drewN ?_ _ | refine blk_drew ?_ | refine blk_alloc ?_ _)); exact BKAe.out⟩, ⟨by (with_reducible repeat (first | refine blk_drewN ?_ _ | refine blk_drew ?_ | refine blk_alloc ?_ _)); exact BKAd.out⟩, ⟨by repeat (first | (with_reducible first | exact HB.out | apply below_alloc | apply pw_below_drewN | apply below_drew1 | refine below_set ?_ GEAe.out | refine below_set ?_ GEAd.out) | exact HB.out)⟩⟩
  replace c13 := Bool.eq_false_iff.mpr c13
  subst c13
  have H1 : (plaitinglaw5_FrameChecks.j0 k l2 a3 a4 true a0_0 a0_1 a0_2 a0_3 a0_4 l0_5 a1_0 a1_1 a1_2 a1_3 a1_4 l1_5) = some r := by rw [if_neg (show ¬ (false = true) by decide)] at H; exact H
  clear H
  have H := H1
  clear H1
  have H' := Aside0.mk H
  clear H
  have hnb18 := NBAd_Ae.out
  have hnc18 := NBAe_Ad.out
  have hcz19_0 : w11.cell? ⟨gbAd, 0, none⟩ = some (.int .i64 a1_0) := (blk_cell BKAd.out 0).trans rfl
  have hcz19_1 : w11.cell? ⟨gbAd, 1, none⟩ = some (.int .i64 a1_1) := (blk_cell BKAd.out 1).trans rfl
  have hcz19_2 : w11.cell? ⟨gbAd, 2, none⟩ = some (.int .i64 a1_2) := (blk_cell BKAd.out 2).trans rfl
  have hcz19_3 : w11.cell? ⟨gbAd, 3, none⟩ = some (.int .i64 a1_3) := (blk_cell BKAd.out 3).trans rfl
  have hcz19_4 : w11.cell? ⟨gbAd, 4, none⟩ = some (.int .i64 a1_4) := (blk_cell BKAd.out 4).trans rfl
  have hcz19_5 : w11.cell? ⟨gbAd, 5, none⟩ = some (.slice A1_5 l1_5.length c1_5) := (blk_cell BKAd.out 5).trans rfl
  have hfz19_0 := blk_frozen BKAd.out 0
  have hfz19_1 := blk_frozen BKAd.out 1
  have hfz19_2 := blk_frozen BKAd.out 2
  have hfz19_3 := blk_frozen BKAd.out 3
  have hfz19_4 := blk_frozen BKAd.out 4
  have hfz19_5 := blk_frozen BKAd.out 5
  go_wp2_with (first | ((with_reducible refine gate_callee (f := 19) rfl ?_); refine gL_ 16 Try.func19 #[.agg #[.int .i64 a1_0, .int .i64 a1_1, .int .i64 a1_2, .int .i64 a1_3, .int .i64 a1_4, .slice A1_5 l1_5.length c1_5]] ?_; (with_reducible refine (plaitinglaw5_Few.calls a1_0 a1_1 a1_2 a1_3 a1_4 _ _ l1_5 false _ ?side1 ?side2 A12.out).mono ?_); (case side1 => exact cC_ (Kd.C_below HR1_5.out HB.out)); (case side2 => exact HC1_5.out); rintro e w20 ⟨rfl, hb⟩; refine ⟨_, rfl, ?_⟩; replace BKAe := Aside0.mk (blk_below (pB_ BKAe.out) hb); replace BKAd := Aside0.mk (blk_below (pB_ BKAd.out) hb); replace HB := Aside0.mk (below_step (pH_ HB.out) hb); (try clear hb); (try clear hb2); (try clear hk); (try clear hi)))
  go_meet
  case rel => exact ⟨_, (true), (by first | rfl | (simp; done) | (simp [*]; done)), H', ⟨by first | omega | exact Nat.le_refl _⟩, ⟨by (with_reducible repeat (first | refine blk_drewN ?_ _ | refine blk_drew ?_ | refine blk_alloc ?_ _)); exact BKAe.out⟩, ⟨by (with_reducible repeat (first | refine blk_drewN ?_ _ | refine blk_drew ?_ | refine blk_alloc ?_ _)); exact BKAd.out⟩, ⟨by repeat (first | (with_reducible first | exact HB.out | apply below_alloc | apply pw_below_drewN | apply below_drew1 | refine below_set ?_ GEAe.out | refine below_set ?_ GEAd.out) | exact HB.out)⟩⟩
 case rest =>
  clear HC8
  try clear c1
  try clear c2
  try clear p2
  try clear c3
  try clear c7
  try clear c13
  try clear c14
  try clear c18
  try clear c19
  try clear hcz15_0
  try clear hcz15_1
  try clear hcz15_2
  try clear hcz15_3
  try clear hcz15_4
  try clear hcz15_5
  try clear hcz17_0
  try clear hcz17_1
  try clear hcz17_2
  try clear hcz17_3
  try clear hcz17_4
  try clear hcz17_5
  try clear hcz19_0
  try clear hcz19_1
  try clear hcz19_2
  try clear hcz19_3
  try clear hcz19_4
  try clear hcz19_5
  try clear hfz15_0
  try clear hfz15_1
  try clear hfz15_2
  try clear hfz15_3
  try clear hfz15_4
  try clear hfz15_5
  try clear hfz17_0
  try clear hfz17_1
  try clear hfz17_2
  try clear hfz17_3
  try clear hfz17_4
  try clear hfz17_5
  try clear hfz19_0
  try clear hfz19_1
  try clear hfz19_2
  try clear hfz19_3
  try clear hfz19_4
  try clear hfz19_5
  obtain ⟨kq, x23_7, rfl, HA, HJ7, BKAe, BKAd, HB⟩ := hcut
  cases kq with
  | zero => exact absurd HA.out (by simp [plaitinglaw5_FrameChecks.j0])
  | succ kj7 =>
   have H := HA.out
   clear HA
   simp only [plaitinglaw5_FrameChecks.j0] at H
   by_cases c21 : x23_7 = true
   ·
    subst c21
    have H1 : (some true) = some r := by rw [if_pos rfl] at H; exact H
    clear H
    have H := H1
    clear H1
    obtain rfl := Option.some.inj H
    go_wp2
    go_ret
    exact ⟨by first | rfl | (simp [errW_none, errW_some] <;> rfl) | (simp [*, errW_none, errW_some] <;> rfl), by repeat (first | (with_reducible first | exact HB.out | apply below_alloc | apply pw_below_drewN | apply below_drew1 | refine below_set ?_ GEAe.out | refine below_set ?_ GEAd.out) | exact HB.out)⟩
   replace c21 := Bool.eq_false_iff.mpr c21
   subst c21
   have H1 : ((plaitinglaw3_Make.f kj7 a0_0 a0_1 a0_2 a0_3 a0_4 l0_5).bind fun btAg => ((plaitinglaw5_Make.f kj7 btAg.1 btAg.2.1 btAg.2.2.1 btAg.2.2.2.1 btAg.2.2.2.2.1 btAg.2.2.2.2.2 a1_0 a1_1 a1_2 a1_3 a1_4 l1_5 l2).bind fun btAc => ((frame_Check.f btAg.1 btAg.2.1 btAg.2.2.1 btAg.2.2.2.1 btAg.2.2.2.2.1 btAg.2.2.2.2.2 a1_0 a1_1 a1_2 a1_3 a1_4 l1_5).bind fun tAf => ((plaitingref5_Check.f kj7 btAg.1 btAg.2.1 btAg.2.2.1 btAg.2.2.2.1 btAg.2.2.2.2.1 btAg.2.2.2.2.2 a1_0 a1_1 a1_2 a1_3 a1_4 l1_5).bind fun tBk => (if tAf = tBk then ((frame_Check.f btAg.1 btAg.2.1 btAg.2.2.1 btAg.2.2.2.1 btAg.2.2.2.2.1 btAg.2.2.2.2.2 btAc.1 btAc.2.1 btAc.2.2.1 btAc.2.2.2.1 btAc.2.2.2.2.1 btAc.2.2.2.2.2).bind fun tBq => (plaitinglaw5_FrameChecks.j1 kj7 a3 a4 (tBq != 0) a1_0 a1_1 a1_2 a1_3 a1_4 l1_5 btAg.1 btAg.2.1 btAg.2.2.1 btAg.2.2.2.1 btAg.2.2.2.2.1 btAg.2.2.2.2.2 btAc.1 btAc.2.1 btAc.2.2.1 btAc.2.2.2.1 btAc.2.2.2.2.1 btAc.2.2.2.2.2)) else (plaitinglaw5_FrameChecks.j1 kj7 a3 a4 true a1_0 a1_1 a1_2 a1_3 a1_4 l1_5 btAg.1 btAg.2.1 btAg.2.2.1 btAg.2.2.2.1 btAg.2.2.2.2.1 btAg.2.2.2.2.2 btAc.1 btAc.2.1 btAc.2.2.1 btAc.2.2.2.1 btAc.2.2.2.2.1 btAc.2.2.2.2.2)))))) = some r := by rw [if_neg (show ¬ (false = true) by decide)] at H; exact H
   clear H
   have H := H1
   clear H1
   replace H := Option.bind_eq_some_iff.mp H
   obtain ⟨⟨tAg, tAj, tAk, tAm, tAn, tAh⟩, A220, H⟩ := H
   replace H : ((plaitinglaw5_Make.f kj7 tAg tAj tAk tAm tAn tAh a1_0 a1_1 a1_2 a1_3 a1_4 l1_5 l2).bind fun btAc => ((frame_Check.f tAg tAj tAk tAm tAn tAh a1_0 a1_1 a1_2 a1_3 a1_4 l1_5).bind fun tAf => ((plaitingref5_Check.f kj7 tAg tAj tAk tAm tAn tAh a1_0 a1_1 a1_2 a1_3 a1_4 l1_5).bind fun tBk => (if tAf = tBk then ((frame_Check.f tAg tAj tAk tAm tAn tAh btAc.1 btAc.2.1 btAc.2.2.1 btAc.2.2.2.1 btAc.2.2.2.2.1 btAc.2.2.2.2.2).bind fun tBq => (plaitinglaw5_FrameChecks.j1 kj7 a3 a4 (tBq != 0) a1_0 a1_1 a1_2 a1_3 a1_4 l1_5 tAg tAj tAk tAm tAn tAh btAc.1 btAc.2.1 btAc.2.2.1 btAc.2.2.2.1 btAc.2.2.2.2.1 btAc.2.2.2.2.2)) else (plaitinglaw5_FrameChecks.j1 kj7 a3 a4 true a1_0 a1_1 a1_2 a1_3 a1_4 l1_5 tAg tAj tAk tAm tAn tAh btAc.1 btAc.2.1 btAc.2.2.1 btAc.2.2.2.1 btAc.2.2.2.2.1 btAc.2.2.2.2.2))))) = some r := H
   have A22 := Aside0.mk A220
   clear A220
   replace H := Option.bind_eq_some_iff.mp H
   obtain ⟨⟨tAc, tAp, tAr, tAq, tAs, tAi⟩, A230, H⟩ := H
   replace H : ((frame_Check.f tAg tAj tAk tAm tAn tAh a1_0 a1_1 a1_2 a1_3 a1_4 l1_5).bind fun tAf => ((plaitingref5_Check.f kj7 tAg tAj tAk tAm tAn tAh a1_0 a1_1 a1_2 a1_3 a1_4 l1_5).bind fun tBk => (if tAf = tBk then ((frame_Check.f tAg tAj tAk tAm tAn tAh tAc tAp tAr tAq tAs tAi).bind fun tBq => (plaitinglaw5_FrameChecks.j1 kj7 a3 a4 (tBq != 0) a1_0 a1_1 a1_2 a1_3 a1_4 l1_5 tAg tAj tAk tAm tAn tAh tAc tAp tAr tAq tAs tAi)) else (plaitinglaw5_FrameChecks.j1 kj7 a3 a4 true a1_0 a1_1 a1_2 a1_3 a1_4 l1_5 tAg tAj tAk tAm tAn tAh tAc tAp tAr tAq tAs tAi)))) = some r := H
   have A23 := Aside0.mk A230
   clear A230
   have HC24 := Aside0.mk H
   clear H
   have hnb25 := NBAe_Ad.out
   have hnc25 := NBAd_Ae.out
   have hcz26_0 : wc.cell? ⟨gbAe, 0, none⟩ = some (.int .i64 a0_0) := (blk_cell BKAe.out 0).trans rfl
   have hcz26_1 : wc.cell? ⟨gbAe, 1, none⟩ = some (.int .i64 a0_1) := (blk_cell BKAe.out 1).trans rfl
   have hcz26_2 : wc.cell? ⟨gbAe, 2, none⟩ = some (.int .i64 a0_2) := (blk_cell BKAe.out 2).trans rfl
   have hcz26_3 : wc.cell? ⟨gbAe, 3, none⟩ = some (.int .i64 a0_3) := (blk_cell BKAe.out 3).trans rfl
   have hcz26_4 : wc.cell? ⟨gbAe, 4, none⟩ = some (.int .i64 a0_4) := (blk_cell BKAe.out 4).trans rfl
   have hcz26_5 : wc.cell? ⟨gbAe, 5, none⟩ = some (.slice A0_5 l0_5.length c0_5) := (blk_cell BKAe.out 5).trans rfl
   have hfz26_0 := blk_frozen BKAe.out 0
   have hfz26_1 := blk_frozen BKAe.out 1
   have hfz26_2 := blk_frozen BKAe.out 2
   have hfz26_3 := blk_frozen BKAe.out 3
   have hfz26_4 := blk_frozen BKAe.out 4
   have hfz26_5 := blk_frozen BKAe.out 5
   go_upto_region 7 with (first | ((with_reducible refine gate_callee (f := 20) rfl ?_); refine gL_ 25 Try.func20 #[.agg #[.int .i64 a0_0, .int .i64 a0_1, .int .i64 a0_2, .int .i64 a0_3, .int .i64 a0_4, .slice A0_5 l0_5.length c0_5]] ?_; (with_reducible refine (plaitinglaw3_Make.calls kj7 a0_0 a0_1 a0_2 a0_3 a0_4 _ _ l0_5 tAg tAj tAk tAm tAn tAh _ ?side1 ?side2 A22.out).mono ?_); (case side1 => exact cC_ (Kd.C_below HR0_5.out HB.out)); (case side2 => exact HC0_5.out); rintro e w27 ⟨vDs, rfl, ho0, hb⟩; refine ⟨_, rfl, ?_⟩; have HOBc := Aside0.mk (Kd.R_lower ho0 (below_size (pH_ HB.out))); replace BKAe := Aside0.mk (blk_below (pB_ BKAe.out) hb); replace BKAd := Aside0.mk (blk_below (pB_ BKAd.out) hb); replace HB := Aside0.mk (below_step (pH_ HB.out) hb); (try clear hb); (try clear hb2); (try clear hk); (try clear hi); (try clear ho0)) | ((with_reducible refine gate_dst (N := 11) rfl ?_); (try (refine gate_guard (by rfl) ?_; dsimp only)); refine box_event ?hg (N := 11) ?hd (cs := #[.int .i64 0, .int .i64 0, .int .i64 0, .int .i64 0, .int .i64 0, .slice none 0 0]) (t := 24) ?hr ?_; (case hd => rfl); (case hg => rfl); (case hr => first | (go_simp; done) | (go_simp; rfl)); intro gbAb hg w28 hbox hb; have BKAb := Aside0.mk (hbox); have GWAb := Aside0.mk ((by rw [hg]; exact (below_size (pH_ HB.out)) : w.heap.size ≤ gbAb)); have GEAb := Aside0.mk ((by rw [hg]; exact (below_size (pH_ HB.out)) : w.heap.size ≤ gbAb)); have NBAe_Ab := Aside0.mk (ltB_ hg BKAe.out); have NBAb_Ae := Aside0.mk (ltB_ hg BKAe.out).symm; have NBAd_Ab := Aside0.mk (ltB_ hg BKAd.out); have NBAb_Ad := Aside0.mk (ltB_ hg BKAd.out).symm; replace HOBc := Aside0.mk (Kd.R_below (pR_ HOBc.out) hb); replace BKAe := Aside0.mk (blk_below (pB_ BKAe.out) hb); replace BKAd := Aside0.mk (blk_below (pB_ BKAd.out) hb); replace HB := Aside0.mk (below_step (pH_ HB.out) hb); clear hb hbox hg; have hnb29 := NBAb_Ae.out; have hnc29 := NBAe_Ab.out; have hnb30 := NBAb_Ad.out; have hnc30 := NBAd_Ab.out; have hcz31_0 : w28.cell? ⟨gbAb, 0, none⟩ = some (.int .i64 0) := (blk_cell BKAb.out 0).trans rfl; have hcz31_1 : w28.cell? ⟨gbAb, 1, none⟩ = some (.int .i64 0) := (blk_cell BKAb.out 1).trans rfl; have hcz31_2 : w28.cell? ⟨gbAb, 2, none⟩ = some (.int .i64 0) := (blk_cell BKAb.out 2).trans rfl; have hcz31_3 : w28.cell? ⟨gbAb, 3, none⟩ = some (.int .i64 0) := (blk_cell BKAb.out 3).trans rfl; have hcz31_4 : w28.cell? ⟨gbAb, 4, none⟩ = some (.int .i64 0) := (blk_cell BKAb.out 4).trans rfl; have hcz31_5 : w28.cell? ⟨gbAb, 5, none⟩ = some (.slice none 0 0) := (blk_cell BKAb.out 5).trans rfl; have hfz31_0 := blk_frozen BKAb.out 0; have hfz31_1 := blk_frozen BKAb.out 1; have hfz31_2 := blk_frozen BKAb.out 2; have hfz31_3 := blk_frozen BKAb.out 3; have hfz31_4 := blk_frozen BKAb.out 4; have hfz31_5 := blk_frozen BKAb.out 5; obtain ⟨Ao32, co32, eo32⟩ := Kd.R_slice HOBc.out; subst eo32; have hcz33_0 : w28.cell? ⟨gbAd, 0, none⟩ = some (.int .i64 a1_0) := (blk_cell BKAd.out 0).trans rfl; have hcz33_1 : w28.cell? ⟨gbAd, 1, none⟩ = some (.int .i64 a1_1) := (blk_cell BKAd.out 1).trans rfl; have hcz33_2 : w28.cell? ⟨gbAd, 2, none⟩ = some (.int .i64 a1_2) := (blk_cell BKAd.out 2).trans rfl; have hcz33_3 : w28.cell? ⟨gbAd, 3, none⟩ = some (.int .i64 a1_3) := (blk_cell BKAd.out 3).trans rfl; have hcz33_4 : w28.cell? ⟨gbAd, 4, none⟩ = some (.int .i64 a1_4) := (blk_cell BKAd.out 4).trans rfl; have hcz33_5 : w28.cell? ⟨gbAd, 5, none⟩ = some (.slice A1_5 l1_5.length c1_5) := (blk_cell BKAd.out 5).trans rfl; have hfz33_0 := blk_frozen BKAd.out 0; have hfz33_1 := blk_frozen BKAd.out 1; have hfz33_2 := blk_frozen BKAd.out 2; have hfz33_3 := blk_frozen BKAd.out 3; have hfz33_4 := blk_frozen BKAd.out 4; have hfz33_5 := blk_frozen BKAd.out 5) | ((with_reducible refine gate_callee (f := 21) rfl ?_); refine gL_ 29 Try.func21 #[.agg #[.int .i64 tAg, .int .i64 tAj, .int .i64 tAk, .int .i64 tAm, .int .i64 tAn, .slice Ao32 tAh.length co32], .agg #[.int .i64 a1_0, .int .i64 a1_1, .int .i64 a1_2, .int .i64 a1_3, .int .i64 a1_4, .slice A1_5 l1_5.length c1_5], .slice A2 l2.length c2] ?_; (with_reducible refine (plaitinglaw5_Make.calls kj7 tAg tAj tAk tAm tAn _ _ tAh a1_0 a1_1 a1_2 a1_3 a1_4 _ _ l1_5 _ _ l2 tAc tAp tAr tAq tAs tAi _ ?side1 ?side2 ?side3 ?side4 ?side5 ?side6 A23.out).mono ?_); (case side1 => refine (Kd.R_reads' (e := 3) (base := w.heap.size) (ok := fun k_ => True) (n := tAh.length) (c := co32) ?_).2.2; exact (by (with_reducible repeat (first | apply Kd.R_alloc | apply Kd.R_drewN | apply Kd.R_drew)); exact (Kd.R_mono (Kd.R_far (p := ⟨gbAb, 5, none⟩) (Kd.R_far (p := ⟨gbAb, 4, none⟩) (Kd.R_far (p := ⟨gbAb, 3, none⟩) (Kd.R_far (p := ⟨gbAb, 2, none⟩) (Kd.R_far (p := ⟨gbAb, 1, none⟩) (Kd.R_far (p := ⟨gbAb, 0, none⟩) (Kd.R_types HOBc.out BKAb.out (by decide)) (fun _ hk => hk.2) (.int .i64 tAg)) (fun _ hk => hk.2) (.int .i64 tAj)) (fun _ hk => hk.2) (.int .i64 tAk)) (fun _ hk => hk.2) (.int .i64 tAm)) (fun _ hk => hk.2) (.int .i64 tAn)) (fun _ hk => hk.2) (.slice Ao32 tAh.length co32)) (fun _ h_ => h_.1)))); (case side2 => exact (Kd.R_reads' HOBc.out).2.1); (case side3 => exact Kd.C_below HR1_5.out (pH_ HB.out)); (case side4 => exact HC1_5.out); (case side5 => exact Kd.C_below HR2.out (pH_ HB.out)); (case side6 => exact HC2.out); rintro e w34 ⟨vDt, rfl, ho0, hb⟩; refine ⟨_, rfl, ?_⟩; have HOBe := Aside0.mk (Kd.R_lower ho0 (below_size (pH_ HB.out))); replace HOBc := Aside0.mk (Kd.R_below (by (with_reducible repeat (first | apply Kd.R_alloc | apply Kd.R_drewN | apply Kd.R_drew)); exact (Kd.R_mono (Kd.R_far (p := ⟨gbAb, 5, none⟩) (Kd.R_far (p := ⟨gbAb, 4, none⟩) (Kd.R_far (p := ⟨gbAb, 3, none⟩) (Kd.R_far (p := ⟨gbAb, 2, none⟩) (Kd.R_far (p := ⟨gbAb, 1, none⟩) (Kd.R_far (p := ⟨gbAb, 0, none⟩) (Kd.R_types HOBc.out BKAb.out (by decide)) (fun _ hk => hk.2) (.int .i64 tAg)) (fun _ hk => hk.2) (.int .i64 tAj)) (fun _ hk => hk.2) (.int .i64 tAk)) (fun _ hk => hk.2) (.int .i64 tAm)) (fun _ hk => hk.2) (.int .i64 tAn)) (fun _ hk => hk.2) (.slice Ao32 tAh.length co32)) (fun _ h_ => h_.1))) hb); replace BKAe := Aside0.mk (blk_below (g := gbAe) (o := .cells #[.int .i64 a0_0, .int .i64 a0_1, .int .i64 a0_2, .int .i64 a0_3, .int .i64 a0_4, .slice A0_5 l0_5.length c0_5] 24 (0, 0)) (by (with_reducible repeat (first | refine blk_drewN ?_ _ | refine blk_drew ?_ | refine blk_alloc ?_ _)); refine blk_far ?_ NBAe_Ab.out _; refine blk_far ?_ NBAe_Ab.out _; refine blk_far ?_ NBAe_Ab.out _; refine blk_far ?_ NBAe_Ab.out _; refine blk_far ?_ NBAe_Ab.out _; refine blk_far ?_ NBAe_Ab.out _; (with_reducible repeat (first | refine blk_drewN ?_ _ | refine blk_drew ?_ | refine blk_alloc ?_ _)); exact BKAe.out) hb); replace BKAd := Aside0.mk (blk_below (g := gbAd) (o := .cells #[.int .i64 a1_0, .int .i64 a1_1, .int .i64 a1_2, .int .i64 a1_3, .int .i64 a1_4, .slice A1_5 l1_5.length c1_5] 29 (0, 0)) (by (with_reducible repeat (first | refine blk_drewN ?_ _ | refine blk_drew ?_ | refine blk_alloc ?_ _)); refine blk_far ?_ NBAd_Ab.out _; refine blk_far ?_ NBAd_Ab.out _; refine blk_far ?_ NBAd_Ab.out _; refine blk_far ?_ NBAd_Ab.out _; refine blk_far ?_ NBAd_Ab.out _; refine blk_far ?_ NBAd_Ab.out _; (with_reducible repeat (first | refine blk_drewN ?_ _ | refine blk_drew ?_ | refine blk_alloc ?_ _)); exact BKAd.out) hb); replace BKAb := Aside0.mk (blk_below (g := gbAb) (o := .cells #[.int .i64 tAg, .int .i64 tAj, .int .i64 tAk, .int .i64 tAm, .int .i64 tAn, .slice Ao32 tAh.length co32] 24 (0, 0)) (by (with_reducible repeat (first | refine blk_drewN ?_ _ | refine blk_drew ?_ | refine blk_alloc ?_ _)); refine blk_put (cs := #[.int .i64 tAg, .int .i64 tAj, .int .i64 tAk, .int .i64 tAm, .int .i64 tAn, .slice none 0 0]) ?_ 5 _ rfl; refine blk_put (cs := #[.int .i64 tAg, .int .i64 tAj, .int .i64 tAk, .int .i64 tAm, .int .i64 0, .slice none 0 0]) ?_ 4 _ rfl; refine blk_put (cs := #[.int .i64 tAg, .int .i64 tAj, .int .i64 tAk, .int .i64 0, .int .i64 0, .slice none 0 0]) ?_ 3 _ rfl; refine blk_put (cs := #[.int .i64 tAg, .int .i64 tAj, .int .i64 0, .int .i64 0, .int .i64 0, .slice none 0 0]) ?_ 2 _ rfl; refine blk_put (cs := #[.int .i64 tAg, .int .i64 0, .int .i64 0, .int .i64 0, .int .i64 0, .slice none 0 0]) ?_ 1 _ rfl; refine blk_put (cs := #[.int .i64 0, .int .i64 0, .int .i64 0, .int .i64 0, .int .i64 0, .slice none 0 0]) ?_ 0 _ rfl; (with_reducible repeat (first | refine blk_drewN ?_ _ | refine blk_drew ?_ | refine blk_alloc ?_ _)); exact BKAb.out) hb); replace HB := Aside0.mk (below_step (pH_ HB.out) hb); (try clear hb); (try clear hb2); (try clear hk); (try clear hi); (try clear ho0)) | ((with_reducible refine gate_dst (N := 12) rfl ?_); (try (refine gate_guard (by rfl) ?_; dsimp only)); refine box_event ?hg (N := 12) ?hd (cs := #[.int .i64 0, .int .i64 0, .int .i64 0, .int .i64 0, .int .i64 0, .slice none 0 0]) (t := 29) ?hr ?_; (case hd => rfl); (case hg => rfl); (case hr => first | (go_simp; done) | (go_simp; rfl)); intro gbAa hg w35 hbox hb; have BKAa := Aside0.mk (hbox); have GWAa := Aside0.mk ((by rw [hg]; exact (below_size (pH_ HB.out)) : w.heap.size ≤ gbAa)); have GEAa := Aside0.mk ((by rw [hg]; exact (below_size (pH_ HB.out)) : w.heap.size ≤ gbAa)); have NBAe_Aa := Aside0.mk (ltB_ hg BKAe.out); have NBAa_Ae := Aside0.mk (ltB_ hg BKAe.out).symm; have NBAd_Aa := Aside0.mk (ltB_ hg BKAd.out); have NBAa_Ad := Aside0.mk (ltB_ hg BKAd.out).symm; have NBAb_Aa := Aside0.mk (ltB_ hg BKAb.out); have NBAa_Ab := Aside0.mk (ltB_ hg BKAb.out).symm; replace HOBc := Aside0.mk (Kd.R_below (pR_ HOBc.out) hb); replace HOBe := Aside0.mk (Kd.R_below (pR_ HOBe.out) hb); replace BKAe := Aside0.mk (blk_below (pB_ BKAe.out) hb); replace BKAd := Aside0.mk (blk_below (pB_ BKAd.out) hb); replace BKAb := Aside0.mk (blk_below (pB_ BKAb.out) hb); replace HB := Aside0.mk (below_step (pH_ HB.out) hb); clear hb hbox hg; have hnb36 := NBAa_Ae.out; have hnc36 := NBAe_Aa.out; have hnb37 := NBAa_Ad.out; have hnc37 := NBAd_Aa.out; have hnb38 := NBAa_Ab.out; have hnc38 := NBAb_Aa.out; have hcz39_0 : w35.cell? ⟨gbAa, 0, none⟩ = some (.int .i64 0) := (blk_cell BKAa.out 0).trans rfl; have hcz39_1 : w35.cell? ⟨gbAa, 1, none⟩ = some (.int .i64 0) := (blk_cell BKAa.out 1).trans rfl; have hcz39_2 : w35.cell? ⟨gbAa, 2, none⟩ = some (.int .i64 0) := (blk_cell BKAa.out 2).trans rfl; have hcz39_3 : w35.cell? ⟨gbAa, 3, none⟩ = some (.int .i64 0) := (blk_cell BKAa.out 3).trans rfl; have hcz39_4 : w35.cell? ⟨gbAa, 4, none⟩ = some (.int .i64 0) := (blk_cell BKAa.out 4).trans rfl; have hcz39_5 : w35.cell? ⟨gbAa, 5, none⟩ = some (.slice none 0 0) := (blk_cell BKAa.out 5).trans rfl; have hfz39_0 := blk_frozen BKAa.out 0; have hfz39_1 := blk_frozen BKAa.out 1; have hfz39_2 := blk_frozen BKAa.out 2; have hfz39_3 := blk_frozen BKAa.out 3; have hfz39_4 := blk_frozen BKAa.out 4; have hfz39_5 := blk_frozen BKAa.out 5; obtain ⟨Ao40, co40, eo40⟩ := Kd.R_slice HOBe.out; subst eo40))
   (try simp only [Act.put, List.setIfInBounds_toArray, List.set_cons_zero, List.set_cons_succ])
   go_cut [42] (fun v42 wc => ∃ (kq : Nat) (x42_23 : Bool), v42 = .bool x42_23 ∧ Aside0 (plaitinglaw5_FrameChecks.j1 kq a3 a4 x42_23 a1_0 a1_1 a1_2 a1_3 a1_4 l1_5 tAg tAj tAk tAm tAn tAh tAc tAp tAr tAq tAs tAi = some r) ∧ Aside0 (kq ≤ kj7) ∧ Aside0 (Kd.R (Kd.int .i64) 3 wc w.heap.size (fun _ => True) (.slice Ao32 tAh.length co32) tAh) ∧ Aside0 (Kd.R k26 26 wc w.heap.size (fun _ => True) (.slice Ao40 tAi.length co40) tAi) ∧ Aside0 (wc.heap[gbAe]? = some (.cells #[.int .i64 a0_0, .int .i64 a0_1, .int .i64 a0_2, .int .i64 a0_3, .int .i64 a0_4, (.slice A0_5 l0_5.length c0_5)] 24 (0, 0))) ∧ Aside0 (wc.heap[gbAd]? = some (.cells #[.int .i64 a1_0, .int .i64 a1_1, .int .i64 a1_2, .int .i64 a1_3, .int .i64 a1_4, (.slice A1_5 l1_5.length c1_5)] 29 (0, 0))) ∧ Aside0 (wc.heap[gbAb]? = some (.cells #[.int .i64 tAg, .int .i64 tAj, .int .i64 tAk, .int .i64 tAm, .int .i64 tAn, (.slice Ao32 tAh.length co32)] 24 (0, 0))) ∧ Aside0 (wc.heap[gbAa]? = some (.cells #[.int .i64 tAc, .int .i64 tAp, .int .i64 tAr, .int .i64 tAq, .int .i64 tAs, (.slice Ao40 tAi.length co40)] 29 (0, 0))) ∧ Aside0 (Below w.heap.size w wc))
   case first =>
    have H := HC24.out
    clear HC24
    replace H := Option.bind_eq_some_iff.mp H
    obtain ⟨tAf, A410, H⟩ := H
    replace H : ((plaitingref5_Check.f kj7 tAg tAj tAk tAm tAn tAh a1_0 a1_1 a1_2 a1_3 a1_4 l1_5).bind fun tBk => (if tAf = tBk then ((frame_Check.f tAg tAj tAk tAm tAn tAh tAc tAp tAr tAq tAs tAi).bind fun tBq => (plaitinglaw5_FrameChecks.j1 kj7 a3 a4 (tBq != 0) a1_0 a1_1 a1_2 a1_3 a1_4 l1_5 tAg tAj tAk tAm tAn tAh tAc tAp tAr tAq tAs tAi)) else (plaitinglaw5_FrameChecks.j1 kj7 a3 a4 true a1_0 a1_1 a1_2 a1_3 a1_4 l1_5 tAg tAj tAk tAm tAn tAh tAc tAp tAr tAq tAs tAi))) = some r := H
    have A41 := Aside0.mk A410
    clear A410
    replace H := Option.bind_eq_some_iff.mp H
    obtain ⟨tBk, A420, H⟩ := H
    replace H : (if tAf = tBk then ((frame_Check.f tAg tAj tAk tAm tAn tAh tAc tAp tAr tAq tAs tAi).bind fun tBq => (plaitinglaw5_FrameChecks.j1 kj7 a3 a4 (tBq != 0) a1_0 a1_1 a1_2 a1_3 a1_4 l1_5 tAg tAj tAk tAm tAn tAh tAc tAp tAr tAq tAs tAi)) else (plaitinglaw5_FrameChecks.j1 kj7 a3 a4 true a1_0 a1_1 a1_2 a1_3 a1_4 l1_5 tAg tAj tAk tAm tAn tAh tAc tAp tAr tAq tAs tAi)) = some r := H
    have A42 := Aside0.mk A420
    clear A420
    by_cases c43 : tAf = tBk
    ·
     rw [if_pos c43] at H
     have c43b0 : (tAf == tBk) = true := beq_iff_eq.mpr c43
     have c43b1 : (tAf != tBk) = false := bne_eq_false_iff_eq.mpr c43
     clear c43
     (first | rw [c43b0] | (simp only [i64_w, i32_w]; rw [c43b0]) | skip)
     replace H := Option.bind_eq_some_iff.mp H
     obtain ⟨tBq, A440, H⟩ := H
     replace H : (plaitinglaw5_FrameChecks.j1 kj7 a3 a4 (tBq != 0) a1_0 a1_1 a1_2 a1_3 a1_4 l1_5 tAg tAj tAk tAm tAn tAh tAc tAp tAr tAq tAs tAi) = some r := H
     have A44 := Aside0.mk A440
     clear A440
     have H' := Aside0.mk H
     clear H
     try go_wp2
     (try (rw [drewN_self w35]; generalize hq_ : World.drewN w35 _ = w35; have n0_ := Aside0.mk (Kd.R_at hq_ HOBc.out); have n1_ := Aside0.mk (Kd.R_at hq_ HOBe.out); have n2_ := Aside0.mk (blk_at hq_ BKAe.out); have n3_ := Aside0.mk (blk_at hq_ BKAd.out); have n4_ := Aside0.mk (blk_at hq_ BKAb.out); have n5_ := Aside0.mk (blk_at hq_ BKAa.out); have n6_ := Aside0.mk (below_at hq_ HB.out); clear hq_ HOBc HOBe BKAe BKAd BKAb BKAa HB; have HOBc := n0_; have HOBe := n1_; have BKAe := n2_; have BKAd := n3_; have BKAb := n4_; have BKAa := n5_; have HB := n6_; clear n0_ n1_ n2_ n3_ n4_ n5_ n6_))
     have n0_ : Aside0 (Kd.R (Kd.int .i64) 3 ((((((w35.setCell ⟨gbAa, 0, none⟩ (.int .i64 tAc)).setCell ⟨gbAa, 1, none⟩ (.int .i64 tAp)).setCell ⟨gbAa, 2, none⟩ (.int .i64 tAr)).setCell ⟨gbAa, 3, none⟩ (.int .i64 tAq)).setCell ⟨gbAa, 4, none⟩ (.int .i64 tAs)).setCell ⟨gbAa, 5, none⟩ (.slice Ao40 tAi.length co40)) w.heap.size (fun _ => True) (.slice Ao32 tAh.length co32) tAh) := ⟨by (with_reducible repeat (first | apply Kd.R_alloc | apply Kd.R_drewN | apply Kd.R_drew)); exact Kd.R_mono (Kd.R_far (p := ⟨gbAa, 5, none⟩) (Kd.R_far (p := ⟨gbAa, 4, none⟩) (Kd.R_far (p := ⟨gbAa, 3, none⟩) (Kd.R_far (p := ⟨gbAa, 2, none⟩) (Kd.R_far (p := ⟨gbAa, 1, none⟩) (Kd.R_far (p := ⟨gbAa, 0, none⟩) (Kd.R_types HOBc.out BKAa.out (by decide)) (fun _ hk => hk.2) (.int .i64 tAc)) (fun _ hk => hk.2) (.int .i64 tAp)) (fun _ hk => hk.2) (.int .i64 tAr)) (fun _ hk => hk.2) (.int .i64 tAq)) (fun _ hk => hk.2) (.int .i64 tAs)) (fun _ hk => hk.2) (.slice Ao40 tAi.length co40)) (fun _ hk => trivial)⟩
     have n1_ : Aside0 (Kd.R k26 26 ((((((w35.setCell ⟨gbAa, 0, none⟩ (.int .i64 tAc)).setCell ⟨gbAa, 1, none⟩ (.int .i64 tAp)).setCell ⟨gbAa, 2, none⟩ (.int .i64 tAr)).setCell ⟨gbAa, 3, none⟩ (.int .i64 tAq)).setCell ⟨gbAa, 4, none⟩ (.int .i64 tAs)).setCell ⟨gbAa, 5, none⟩ (.slice Ao40 tAi.length co40)) w.heap.size (fun _ => True) (.slice Ao40 tAi.length co40) tAi) := ⟨by (with_reducible repeat (first | apply Kd.R_alloc | apply Kd.R_drewN | apply Kd.R_drew)); exact Kd.R_mono (Kd.R_far (p := ⟨gbAa, 5, none⟩) (Kd.R_far (p := ⟨gbAa, 4, none⟩) (Kd.R_far (p := ⟨gbAa, 3, none⟩) (Kd.R_far (p := ⟨gbAa, 2, none⟩) (Kd.R_far (p := ⟨gbAa, 1, none⟩) (Kd.R_far (p := ⟨gbAa, 0, none⟩) (Kd.R_types HOBe.out BKAa.out (by decide)) (fun _ hk => hk.2) (.int .i64 tAc)) (fun _ hk => hk.2) (.int .i64 tAp)) (fun _ hk => hk.2) (.int .i64 tAr)) (fun _ hk => hk.2) (.int .i64 tAq)) (fun _ hk => hk.2) (.int .i64 tAs)) (fun _ hk => hk.2) (.slice Ao40 tAi.length co40)) (fun _ hk => trivial)⟩
     have n2_ : Aside0 (((((((w35.setCell ⟨gbAa, 0, none⟩ (.int .i64 tAc)).setCell ⟨gbAa, 1, none⟩ (.int .i64 tAp)).setCell ⟨gbAa, 2, none⟩ (.int .i64 tAr)).setCell ⟨gbAa, 3, none⟩ (.int .i64 tAq)).setCell ⟨gbAa, 4, none⟩ (.int .i64 tAs)).setCell ⟨gbAa, 5, none⟩ (.slice Ao40 tAi.length co40)).heap[gbAe]? = some (.cells #[.int .i64 a0_0, .int .i64 a0_1, .int .i64 a0_2, .int .i64 a0_3, .int .i64 a0_4, .slice A0_5 l0_5.length c0_5] 24 (0, 0))) := ⟨by (with_reducible repeat (first | refine blk_drewN ?_ _ | refine blk_drew ?_ | refine blk_alloc ?_ _)); refine blk_far ?_ NBAe_Aa.out _; refine blk_far ?_ NBAe_Aa.out _; refine blk_far ?_ NBAe_Aa.out _; refine blk_far ?_ NBAe_Aa.out _; refine blk_far ?_ NBAe_Aa.out _; refine blk_far ?_ NBAe_Aa.out _; (with_reducible repeat (first | refine blk_drewN ?_ _ | refine blk_drew ?_ | refine blk_alloc ?_ _)); exact BKAe.out⟩
     have n3_ : Aside0 (((((((w35.setCell ⟨gbAa, 0, none⟩ (.int .i64 tAc)).setCell ⟨gbAa, 1, none⟩ (.int .i64 tAp)).setCell ⟨gbAa, 2, none⟩ (.int .i64 tAr)).setCell ⟨gbAa, 3, none⟩ (.int .i64 tAq)).setCell ⟨gbAa, 4, none⟩ (.int .i64 tAs)).setCell ⟨gbAa, 5, none⟩ (.slice Ao40 tAi.length co40)).heap[gbAd]? = some (.cells #[.int .i64 a1_0, .int .i64 a1_1, .int .i64 a1_2, .int .i64 a1_3, .int .i64 a1_4, .slice A1_5 l1_5.length c1_5] 29 (0, 0))) := ⟨by (with_reducible repeat (first | refine blk_drewN ?_ _ | refine blk_drew ?_ | refine blk_alloc ?_ _)); refine blk_far ?_ NBAd_Aa.out _; refine blk_far ?_ NBAd_Aa.out _; refine blk_far ?_ NBAd_Aa.out _; refine blk_far ?_ NBAd_Aa.out _; refine blk_far ?_ NBAd_Aa.out _; refine blk_far ?_ NBAd_Aa.out _; (with_reducible repeat (first | refine blk_drewN ?_ _ | refine blk_drew ?_ | refine blk_alloc ?_ _)); exact BKAd.out⟩
     have n4_ : Aside0 (((((((w35.setCell ⟨gbAa, 0, none⟩ (.int .i64 tAc)).setCell ⟨gbAa, 1, none⟩ (.int .i64 tAp)).setCell ⟨gbAa, 2, none⟩ (.int .i64 tAr)).setCell ⟨gbAa, 3, none⟩ (.int .i64 tAq)).setCell ⟨gbAa, 4, none⟩ (.int .i64 tAs)).setCell ⟨gbAa, 5, none⟩ (.slice Ao40 tAi.length co40)).heap[gbAb]? = some (.cells #[.int .i64 tAg, .int .i64 tAj, .int .i64 tAk, .int .i64 tAm, .int .i64 tAn, .slice Ao32 tAh.length co32] 24 (0, 0))) := ⟨by (with_reducible repeat (first | refine blk_drewN ?_ _ | refine blk_drew ?_ | refine blk_alloc ?_ _)); refine blk_far ?_ NBAb_Aa.out _; refine blk_far ?_ NBAb_Aa.out _; refine blk_far ?_ NBAb_Aa.out _; refine blk_far ?_ NBAb_Aa.out _; refine blk_far ?_ NBAb_Aa.out _; refine blk_far ?_ NBAb_Aa.out _; (with_reducible repeat (first | refine blk_drewN ?_ _ | refine blk_drew ?_ | refine blk_alloc ?_ _)); exact BKAb.out⟩
     have n5_ : Aside0 (((((((w35.setCell ⟨gbAa, 0, none⟩ (.int .i64 tAc)).setCell ⟨gbAa, 1, none⟩ (.int .i64 tAp)).setCell ⟨gbAa, 2, none⟩ (.int .i64 tAr)).setCell ⟨gbAa, 3, none⟩ (.int .i64 tAq)).setCell ⟨gbAa, 4, none⟩ (.int .i64 tAs)).setCell ⟨gbAa, 5, none⟩ (.slice Ao40 tAi.length co40)).heap[gbAa]? = some (.cells #[.int .i64 tAc, .int .i64 tAp, .int .i64 tAr, .int .i64 tAq, .int .i64 tAs, .slice Ao40 tAi.length co40] 29 (0, 0))) := ⟨by (with_reducible repeat (first | refine blk_drewN ?_ _ | refine blk_drew ?_ | refine blk_alloc ?_ _)); refine blk_put (cs := #[.int .i64 tAc, .int .i64 tAp, .int .i64 tAr, .int .i64 tAq, .int .i64 tAs, .slice none 0 0]) ?_ 5 _ rfl; refine blk_put (cs := #[.int .i64 tAc, .int .i64 tAp, .int .i64 tAr, .int .i64 tAq, .int .i64 0, .slice none 0 0]) ?_ 4 _ rfl; refine blk_put (cs := #[.int .i64 tAc, .int .i64 tAp, .int .i64 tAr, .int .i64 0, .int .i64 0, .slice none 0 0]) ?_ 3 _ rfl; refine blk_put (cs := #[.int .i64 tAc, .int .i64 tAp, .int .i64 0, .int .i64 0, .int .i64 0, .slice none 0 0]) ?_ 2 _ rfl; refine blk_put (cs := #[.int .i64 tAc, .int .i64 0, .int .i64 0, .int .i64 0, .int .i64 0, .slice none 0 0]) ?_ 1 _ rfl; refine blk_put (cs := #[.int .i64 0, .int .i64 0, .int .i64 0, .int .i64 0, .int .i64 0, .slice none 0 0]) ?_ 0 _ rfl; (with_reducible repeat (first | refine blk_drewN ?_ _ | refine blk_drew ?_ | refine blk_alloc ?_ _)); exact BKAa.out⟩
     have n6_ : Aside0 (Below w.heap.size w ((((((w35.setCell ⟨gbAa, 0, none⟩ (.int .i64 tAc)).setCell ⟨gbAa, 1, none⟩ (.int .i64 tAp)).setCell ⟨gbAa, 2, none⟩ (.int .i64 tAr)).setCell ⟨gbAa, 3, none⟩ (.int .i64 tAq)).setCell ⟨gbAa, 4, none⟩ (.int .i64 tAs)).setCell ⟨gbAa, 5, none⟩ (.slice Ao40 tAi.length co40))) := ⟨by repeat (first | (with_reducible first | exact HB.out | apply below_alloc | apply pw_below_drewN | apply below_drew1 | refine below_set ?_ GEAe.out | refine below_set ?_ GEAd.out | refine below_set ?_ GEAb.out | refine below_set ?_ GEAa.out) | exact HB.out)⟩
     (try clear HOBc)
     (try clear HOBe)
     (try clear BKAe)
     (try clear BKAd)
     (try clear BKAb)
     (try clear BKAa)
     (try clear HB)
     generalize ((((((w35.setCell ⟨gbAa, 0, none⟩ (.int .i64 tAc)).setCell ⟨gbAa, 1, none⟩ (.int .i64 tAp)).setCell ⟨gbAa, 2, none⟩ (.int .i64 tAr)).setCell ⟨gbAa, 3, none⟩ (.int .i64 tAq)).setCell ⟨gbAa, 4, none⟩ (.int .i64 tAs)).setCell ⟨gbAa, 5, none⟩ (.slice Ao40 tAi.length co40)) = w45 at n0_ n1_ n2_ n3_ n4_ n5_ n6_ ⊢
     have HOBc := n0_
     have HOBe := n1_
     have BKAe := n2_
     have BKAd := n3_
     have BKAb := n4_
     have BKAa := n5_
     have HB := n6_
     clear n0_ n1_ n2_ n3_ n4_ n5_ n6_
     replace HOBc := Aside0.mk (Kd.R_drew HOBc.out)
     replace HOBe := Aside0.mk (Kd.R_drew HOBe.out)
     replace BKAe := Aside0.mk (blk_drew BKAe.out)
     replace BKAd := Aside0.mk (blk_drew BKAd.out)
     replace BKAb := Aside0.mk (blk_drew BKAb.out)
     replace BKAa := Aside0.mk (blk_drew BKAa.out)
     replace HB := Aside0.mk (below_drew1 HB.out)
     refine start_ (n := 13) (S := fun w' => w'.cell? ⟨gbAb, 0, none⟩ = some (.int .i64 tAg) ∧ w'.cell? ⟨gbAb, 1, none⟩ = some (.int .i64 tAj) ∧ w'.cell? ⟨gbAb, 2, none⟩ = some (.int .i64 tAk) ∧ w'.cell? ⟨gbAb, 3, none⟩ = some (.int .i64 tAm) ∧ w'.cell? ⟨gbAb, 4, none⟩ = some (.int .i64 tAn) ∧ w'.cell? ⟨gbAb, 5, none⟩ = some (.slice Ao32 tAh.length co32) ∧ w'.cell? ⟨gbAd, 0, none⟩ = some (.int .i64 a1_0) ∧ w'.cell? ⟨gbAd, 1, none⟩ = some (.int .i64 a1_1) ∧ w'.cell? ⟨gbAd, 2, none⟩ = some (.int .i64 a1_2) ∧ w'.cell? ⟨gbAd, 3, none⟩ = some (.int .i64 a1_3) ∧ w'.cell? ⟨gbAd, 4, none⟩ = some (.int .i64 a1_4) ∧ w'.cell? ⟨gbAd, 5, none⟩ = some (.slice A1_5 l1_5.length c1_5) ∧ w'.cell? ⟨gbAa, 0, none⟩ = some (.int .i64 tAc) ∧ w'.cell? ⟨gbAa, 1, none⟩ = some (.int .i64 tAp) ∧ w'.cell? ⟨gbAa, 2, none⟩ = some (.int .i64 tAr) ∧ w'.cell? ⟨gbAa, 3, none⟩ = some (.int .i64 tAq) ∧ w'.cell? ⟨gbAa, 4, none⟩ = some (.int .i64 tAs) ∧ w'.cell? ⟨gbAa, 5, none⟩ = some (.slice Ao40 tAi.length co40)) (ds := []) #[false, false, false, false, false, false, false, false, false, false, false, false, false] (by kernel_rfl) rfl rfl ⟨(blk_cell BKAb.out 0).trans rfl, (blk_cell BKAb.out 1).trans rfl, (blk_cell BKAb.out 2).trans rfl, (blk_cell BKAb.out 3).trans rfl, (blk_cell BKAb.out 4).trans rfl, (blk_cell BKAb.out 5).trans rfl, (blk_cell BKAd.out 0).trans rfl, (blk_cell BKAd.out 1).trans rfl, (blk_cell BKAd.out 2).trans rfl, (blk_cell BKAd.out 3).trans rfl, (blk_cell BKAd.out 4).trans rfl, (blk_cell BKAd.out 5).trans rfl, (blk_cell BKAa.out 0).trans rfl, (blk_cell BKAa.out 1).trans rfl, (blk_cell BKAa.out 2).trans rfl, (blk_cell BKAa.out 3).trans rfl, (blk_cell BKAa.out 4).trans rfl, (blk_cell BKAa.out 5).trans rfl⟩ (fun hHeld => ?_); refine with_tabW plaitinglaw5_FrameChecks.tab7 plaitinglaw5_FrameChecks.bits7 (fun HT_ HW_ => ?_)
     generalize w45.drew = w46 at HOBc HOBe BKAe BKAd BKAb BKAa HB hHeld ⊢
     refine tq_ 0 30 HT_ HW_ hHeld ?_
     refine tq_ 1 31 HT_ HW_ hHeld ?_
     refine tq_ 3 33 HT_ HW_ hHeld ?_
     refine tq_ 4 34 HT_ HW_ hHeld ?_
     refine oq_ 2 32 HT_ (fun K hK => ?_)
     refine gs_ Try.func22 #[.agg #[.int .i64 tAg, .int .i64 tAj, .int .i64 tAk, .int .i64 tAm, .int .i64 tAn, .slice Ao32 tAh.length co32], .agg #[.int .i64 a1_0, .int .i64 a1_1, .int .i64 a1_2, .int .i64 a1_3, .int .i64 a1_4, .slice A1_5 l1_5.length c1_5]] ?_
     with_reducible refine (frame_Check.calls tAg tAj tAk tAm tAn _ _ tAh a1_0 a1_1 a1_2 a1_3 a1_4 _ _ l1_5 tAf _ ?side1 ?side2 ?side3 ?side4 A41.out).mono ?_
     (case side1 => exact cC_ (Kd.R_reads' HOBc.out).2.2)
     (case side2 => exact (Kd.R_reads' HOBc.out).2.1)
     (case side3 => exact cC_ (Kd.C_below HR1_5.out HB.out))
     (case side4 => exact HC1_5.out)
     rintro e w47 ⟨rfl, hb⟩
     refine ⟨_, rfl, ?_⟩
     replace HOBc := Aside0.mk (Kd.R_below (pR_ HOBc.out) hb)
     replace HOBe := Aside0.mk (Kd.R_below (pR_ HOBe.out) hb)
     replace BKAe := Aside0.mk (blk_below (pB_ BKAe.out) hb)
     replace BKAd := Aside0.mk (blk_below (pB_ BKAd.out) hb)
     replace BKAb := Aside0.mk (blk_below (pB_ BKAb.out) hb)
     replace BKAa := Aside0.mk (blk_below (pB_ BKAa.out) hb)
     replace HB := Aside0.mk (below_step (pH_ HB.out) hb)
     (try clear hb)
     (try clear hb2)
     (try clear hk)
     (try clear hi)
     refine hK.out _ _ ⟨(blk_cell BKAb.out 0).trans rfl, (blk_cell BKAb.out 1).trans rfl, (blk_cell BKAb.out 2).trans rfl, (blk_cell BKAb.out 3).trans rfl, (blk_cell BKAb.out 4).trans rfl, (blk_cell BKAb.out 5).trans rfl, (blk_cell BKAd.out 0).trans rfl, (blk_cell BKAd.out 1).trans rfl, (blk_cell BKAd.out 2).trans rfl, (blk_cell BKAd.out 3).trans rfl, (blk_cell BKAd.out 4).trans rfl, (blk_cell BKAd.out 5).trans rfl, (blk_cell BKAa.out 0).trans rfl, (blk_cell BKAa.out 1).trans rfl, (blk_cell BKAa.out 2).trans rfl, (blk_cell BKAa.out 3).trans rfl, (blk_cell BKAa.out 4).trans rfl, (blk_cell BKAa.out 5).trans rfl⟩ (fun hHeld => ?_)
     clear hK K
     refine nq_ 32 ?_
     refine oq_ 5 35 HT_ (fun K hK => ?_)
     refine gs_ Try.func23 #[.agg #[.int .i64 tAg, .int .i64 tAj, .int .i64 tAk, .int .i64 tAm, .int .i64 tAn, .slice Ao32 tAh.length co32], .agg #[.int .i64 a1_0, .int .i64 a1_1, .int .i64 a1_2, .int .i64 a1_3, .int .i64 a1_4, .slice A1_5 l1_5.length c1_5]] ?_
     with_reducible refine (plaitingref5_Check.calls kj7 tAg tAj tAk tAm tAn _ _ tAh a1_0 a1_1 a1_2 a1_3 a1_4 _ _ l1_5 tBk _ ?side1 ?side2 ?side3 ?side4 A42.out).mono ?_
     (case side1 => exact cC_ (Kd.R_reads' HOBc.out).2.2)
     (case side2 => exact (Kd.R_reads' HOBc.out).2.1)
     (case side3 => exact cC_ (Kd.C_below HR1_5.out HB.out))
     (case side4 => exact HC1_5.out)
     rintro e w48 ⟨rfl, hb⟩
     refine ⟨_, rfl, ?_⟩
     replace HOBc := Aside0.mk (Kd.R_below (pR_ HOBc.out) hb)
     replace HOBe := Aside0.mk (Kd.R_below (pR_ HOBe.out) hb)
     replace BKAe := Aside0.mk (blk_below (pB_ BKAe.out) hb)
     replace BKAd := Aside0.mk (blk_below (pB_ BKAd.out) hb)
     replace BKAb := Aside0.mk (blk_below (pB_ BKAb.out) hb)
     replace BKAa := Aside0.mk (blk_below (pB_ BKAa.out) hb)
     replace HB := Aside0.mk (below_step (pH_ HB.out) hb)
     (try clear hb)
     (try clear hb2)
     (try clear hk)
     (try clear hi)
     refine hK.out _ _ ⟨(blk_cell BKAb.out 0).trans rfl, (blk_cell BKAb.out 1).trans rfl, (blk_cell BKAb.out 2).trans rfl, (blk_cell BKAb.out 3).trans rfl, (blk_cell BKAb.out 4).trans rfl, (blk_cell BKAb.out 5).trans rfl, (blk_cell BKAd.out 0).trans rfl, (blk_cell BKAd.out 1).trans rfl, (blk_cell BKAd.out 2).trans rfl, (blk_cell BKAd.out 3).trans rfl, (blk_cell BKAd.out 4).trans rfl, (blk_cell BKAd.out 5).trans rfl, (blk_cell BKAa.out 0).trans rfl, (blk_cell BKAa.out 1).trans rfl, (blk_cell BKAa.out 2).trans rfl, (blk_cell BKAa.out 3).trans rfl, (blk_cell BKAa.out 4).trans rfl, (blk_cell BKAa.out 5).trans rfl⟩ (fun hHeld => ?_)
     clear hK K
     refine nq_ 35 ?_
     refine pq_ 6 36 HT_ ?_
     refine pq_ 7 37 HT_ ?_
     refine tq_ 8 38 HT_ HW_ hHeld ?_
     refine tq_ 9 39 HT_ HW_ hHeld ?_
     refine oq_ 10 40 HT_ (fun K hK => ?_)
     refine gs_ Try.func22 #[.agg #[.int .i64 tAg, .int .i64 tAj, .int .i64 tAk, .int .i64 tAm, .int .i64 tAn, .slice Ao32 tAh.length co32], .agg #[.int .i64 tAc, .int .i64 tAp, .int .i64 tAr, .int .i64 tAq, .int .i64 tAs, .slice Ao40 tAi.length co40]] ?_
     with_reducible refine (frame_Check.calls tAg tAj tAk tAm tAn _ _ tAh tAc tAp tAr tAq tAs _ _ tAi tBq _ ?side1 ?side2 ?side3 ?side4 A44.out).mono ?_
     (case side1 => exact cC_ (Kd.R_reads' HOBc.out).2.2)
     (case side2 => exact (Kd.R_reads' HOBc.out).2.1)
     (case side3 => exact cC_ (Kd.R_reads' HOBe.out).2.2)
     (case side4 => exact (Kd.R_reads' HOBe.out).2.1)
     rintro e w49 ⟨rfl, hb⟩
     refine ⟨_, rfl, ?_⟩
     replace HOBc := Aside0.mk (Kd.R_below (pR_ HOBc.out) hb)
     replace HOBe := Aside0.mk (Kd.R_below (pR_ HOBe.out) hb)
     replace BKAe := Aside0.mk (blk_below (pB_ BKAe.out) hb)
     replace BKAd := Aside0.mk (blk_below (pB_ BKAd.out) hb)
     replace BKAb := Aside0.mk (blk_below (pB_ BKAb.out) hb)
     replace BKAa := Aside0.mk (blk_below (pB_ BKAa.out) hb)
     replace HB := Aside0.mk (below_step (pH_ HB.out) hb)
     (try clear hb)
     (try clear hb2)
     (try clear hk)
     (try clear hi)
     refine hK.out _ _ ⟨(blk_cell BKAb.out 0).trans rfl, (blk_cell BKAb.out 1).trans rfl, (blk_cell BKAb.out 2).trans rfl, (blk_cell BKAb.out 3).trans rfl, (blk_cell BKAb.out 4).trans rfl, (blk_cell BKAb.out 5).trans rfl, (blk_cell BKAd.out 0).trans rfl, (blk_cell BKAd.out 1).trans rfl, (blk_cell BKAd.out 2).trans rfl, (blk_cell BKAd.out 3).trans rfl, (blk_cell BKAd.out 4).trans rfl, (blk_cell BKAd.out 5).trans rfl, (blk_cell BKAa.out 0).trans rfl, (blk_cell BKAa.out 1).trans rfl, (blk_cell BKAa.out 2).trans rfl, (blk_cell BKAa.out 3).trans rfl, (blk_cell BKAa.out 4).trans rfl, (blk_cell BKAa.out 5).trans rfl⟩ (fun hHeld => ?_)
     clear hK K
     refine nq_ 40 ?_
     refine pq_ 11 41 HT_ ?_
     refine pq_ 12 42 HT_ ?_
     refine done_ (done_of HT_.out (by kernel_rfl)) ?_
     try go_wp2
     go_meet
     case rel => exact ⟨_, ((tBq != 0)), (by first | rfl | (simp; done) | (simp [*]; done)), H', ⟨by have := HJ7.out; first | omega | exact Nat.le_refl _⟩, ⟨by (with_reducible repeat (first | apply Kd.R_alloc | apply Kd.R_drewN | apply Kd.R_drew)); exact HOBc.out⟩, ⟨by (with_reducible repeat (first | apply Kd.R_alloc | apply Kd.R_drewN | apply Kd.R_drew)); exact HOBe.out⟩, ⟨by (with_reducible repeat (first | refine blk_drewN ?_ _ | refine blk_drew ?_ | refine blk_alloc ?_ _)); exact BKAe.out⟩, ⟨by (with_reducible repeat (first | refine blk_drewN ?_ _ | refine blk_drew ?_ | refine blk_alloc ?_ _)); exact BKAd.out⟩, ⟨by (with_reducible repeat (first | refine blk_drewN ?_ _ | refine blk_drew ?_ | refine blk_alloc ?_ _)); exact BKAb.out⟩, ⟨by (with_reducible repeat (first | refine blk_drewN ?_ _ | refine blk_drew ?_ | refine blk_alloc ?_ _)); exact BKAa.out⟩, ⟨by repeat (first | (with_reducible first | exact HB.out | apply below_alloc | apply pw_below_drewN | apply below_drew1 | refine below_set ?_ GEAe.out | refine below_set ?_ GEAd.out | refine below_set ?_ GEAb.out | refine below_set ?_ GEAa.out) | exact HB.out)⟩⟩
    rw [if_neg c43] at H
    have c43b0 : (tAf == tBk) = false := beq_eq_false_iff_ne.mpr c43
    have c43b1 : (tAf != tBk) = true := bne_iff_ne.mpr c43
    (first | rw [c43b0] | (simp only [i64_w, i32_w]; rw [c43b0]) | skip)
    have H' := Aside0.mk H
    clear H
    try go_wp2
    (try (rw [drewN_self w35]; generalize hq_ : World.drewN w35 _ = w35; have n0_ := Aside0.mk (Kd.R_at hq_ HOBc.out); have n1_ := Aside0.mk (Kd.R_at hq_ HOBe.out); have n2_ := Aside0.mk (blk_at hq_ BKAe.out); have n3_ := Aside0.mk (blk_at hq_ BKAd.out); have n4_ := Aside0.mk (blk_at hq_ BKAb.out); have n5_ := Aside0.mk (blk_at hq_ BKAa.out); have n6_ := Aside0.mk (below_at hq_ HB.out); clear hq_ HOBc HOBe BKAe BKAd BKAb BKAa HB; have HOBc := n0_; have HOBe := n1_; have BKAe := n2_; have BKAd := n3_; have BKAb := n4_; have BKAa := n5_; have HB := n6_; clear n0_ n1_ n2_ n3_ n4_ n5_ n6_))
    have n0_ : Aside0 (Kd.R (Kd.int .i64) 3 ((((((w35.setCell ⟨gbAa, 0, none⟩ (.int .i64 tAc)).setCell ⟨gbAa, 1, none⟩ (.int .i64 tAp)).setCell ⟨gbAa, 2, none⟩ (.int .i64 tAr)).setCell ⟨gbAa, 3, none⟩ (.int .i64 tAq)).setCell ⟨gbAa, 4, none⟩ (.int .i64 tAs)).setCell ⟨gbAa, 5, none⟩ (.slice Ao40 tAi.length co40)) w.heap.size (fun _ => True) (.slice Ao32 tAh.length co32) tAh) := ⟨by (with_reducible repeat (first | apply Kd.R_alloc | apply Kd.R_drewN | apply Kd.R_drew)); exact Kd.R_mono (Kd.R_far (p := ⟨gbAa, 5, none⟩) (Kd.R_far (p := ⟨gbAa, 4, none⟩) (Kd.R_far (p := ⟨gbAa, 3, none⟩) (Kd.R_far (p := ⟨gbAa, 2, none⟩) (Kd.R_far (p := ⟨gbAa, 1, none⟩) (Kd.R_far (p := ⟨gbAa, 0, none⟩) (Kd.R_types HOBc.out BKAa.out (by decide)) (fun _ hk => hk.2) (.int .i64 tAc)) (fun _ hk => hk.2) (.int .i64 tAp)) (fun _ hk => hk.2) (.int .i64 tAr)) (fun _ hk => hk.2) (.int .i64 tAq)) (fun _ hk => hk.2) (.int .i64 tAs)) (fun _ hk => hk.2) (.slice Ao40 tAi.length co40)) (fun _ hk => trivial)⟩
    have n1_ : Aside0 (Kd.R k26 26 ((((((w35.setCell ⟨gbAa, 0, none⟩ (.int .i64 tAc)).setCell ⟨gbAa, 1, none⟩ (.int .i64 tAp)).setCell ⟨gbAa, 2, none⟩ (.int .i64 tAr)).setCell ⟨gbAa, 3, none⟩ (.int .i64 tAq)).setCell ⟨gbAa, 4, none⟩ (.int .i64 tAs)).setCell ⟨gbAa, 5, none⟩ (.slice Ao40 tAi.length co40)) w.heap.size (fun _ => True) (.slice Ao40 tAi.length co40) tAi) := ⟨by (with_reducible repeat (first | apply Kd.R_alloc | apply Kd.R_drewN | apply Kd.R_drew)); exact Kd.R_mono (Kd.R_far (p := ⟨gbAa, 5, none⟩) (Kd.R_far (p := ⟨gbAa, 4, none⟩) (Kd.R_far (p := ⟨gbAa, 3, none⟩) (Kd.R_far (p := ⟨gbAa, 2, none⟩) (Kd.R_far (p := ⟨gbAa, 1, none⟩) (Kd.R_far (p := ⟨gbAa, 0, none⟩) (Kd.R_types HOBe.out BKAa.out (by decide)) (fun _ hk => hk.2) (.int .i64 tAc)) (fun _ hk => hk.2) (.int .i64 tAp)) (fun _ hk => hk.2) (.int .i64 tAr)) (fun _ hk => hk.2) (.int .i64 tAq)) (fun _ hk => hk.2) (.int .i64 tAs)) (fun _ hk => hk.2) (.slice Ao40 tAi.length co40)) (fun _ hk => trivial)⟩
    have n2_ : Aside0 (((((((w35.setCell ⟨gbAa, 0, none⟩ (.int .i64 tAc)).setCell ⟨gbAa, 1, none⟩ (.int .i64 tAp)).setCell ⟨gbAa, 2, none⟩ (.int .i64 tAr)).setCell ⟨gbAa, 3, none⟩ (.int .i64 tAq)).setCell ⟨gbAa, 4, none⟩ (.int .i64 tAs)).setCell ⟨gbAa, 5, none⟩ (.slice Ao40 tAi.length co40)).heap[gbAe]? = some (.cells #[.int .i64 a0_0, .int .i64 a0_1, .int .i64 a0_2, .int .i64 a0_3, .int .i64 a0_4, .slice A0_5 l0_5.length c0_5] 24 (0, 0))) := ⟨by (with_reducible repeat (first | refine blk_drewN ?_ _ | refine blk_drew ?_ | refine blk_alloc ?_ _)); refine blk_far ?_ NBAe_Aa.out _; refine blk_far ?_ NBAe_Aa.out _; refine blk_far ?_ NBAe_Aa.out _; refine blk_far ?_ NBAe_Aa.out _; refine blk_far ?_ NBAe_Aa.out _; refine blk_far ?_ NBAe_Aa.out _; (with_reducible repeat (first | refine blk_drewN ?_ _ | refine blk_drew ?_ | refine blk_alloc ?_ _)); exact BKAe.out⟩
    have n3_ : Aside0 (((((((w35.setCell ⟨gbAa, 0, none⟩ (.int .i64 tAc)).setCell ⟨gbAa, 1, none⟩ (.int .i64 tAp)).setCell ⟨gbAa, 2, none⟩ (.int .i64 tAr)).setCell ⟨gbAa, 3, none⟩ (.int .i64 tAq)).setCell ⟨gbAa, 4, none⟩ (.int .i64 tAs)).setCell ⟨gbAa, 5, none⟩ (.slice Ao40 tAi.length co40)).heap[gbAd]? = some (.cells #[.int .i64 a1_0, .int .i64 a1_1, .int .i64 a1_2, .int .i64 a1_3, .int .i64 a1_4, .slice A1_5 l1_5.length c1_5] 29 (0, 0))) := ⟨by (with_reducible repeat (first | refine blk_drewN ?_ _ | refine blk_drew ?_ | refine blk_alloc ?_ _)); refine blk_far ?_ NBAd_Aa.out _; refine blk_far ?_ NBAd_Aa.out _; refine blk_far ?_ NBAd_Aa.out _; refine blk_far ?_ NBAd_Aa.out _; refine blk_far ?_ NBAd_Aa.out _; refine blk_far ?_ NBAd_Aa.out _; (with_reducible repeat (first | refine blk_drewN ?_ _ | refine blk_drew ?_ | refine blk_alloc ?_ _)); exact BKAd.out⟩
    have n4_ : Aside0 (((((((w35.setCell ⟨gbAa, 0, none⟩ (.int .i64 tAc)).setCell ⟨gbAa, 1, none⟩ (.int .i64 tAp)).setCell ⟨gbAa, 2, none⟩ (.int .i64 tAr)).setCell ⟨gbAa, 3, none⟩ (.int .i64 tAq)).setCell ⟨gbAa, 4, none⟩ (.int .i64 tAs)).setCell ⟨gbAa, 5, none⟩ (.slice Ao40 tAi.length co40)).heap[gbAb]? = some (.cells #[.int .i64 tAg, .int .i64 tAj, .int .i64 tAk, .int .i64 tAm, .int .i64 tAn, .slice Ao32 tAh.length co32] 24 (0, 0))) := ⟨by (with_reducible repeat (first | refine blk_drewN ?_ _ | refine blk_drew ?_ | refine blk_alloc ?_ _)); refine blk_far ?_ NBAb_Aa.out _; refine blk_far ?_ NBAb_Aa.out _; refine blk_far ?_ NBAb_Aa.out _; refine blk_far ?_ NBAb_Aa.out _; refine blk_far ?_ NBAb_Aa.out _; refine blk_far ?_ NBAb_Aa.out _; (with_reducible repeat (first | refine blk_drewN ?_ _ | refine blk_drew ?_ | refine blk_alloc ?_ _)); exact BKAb.out⟩
    have n5_ : Aside0 (((((((w35.setCell ⟨gbAa, 0, none⟩ (.int .i64 tAc)).setCell ⟨gbAa, 1, none⟩ (.int .i64 tAp)).setCell ⟨gbAa, 2, none⟩ (.int .i64 tAr)).setCell ⟨gbAa, 3, none⟩ (.int .i64 tAq)).setCell ⟨gbAa, 4, none⟩ (.int .i64 tAs)).setCell ⟨gbAa, 5, none⟩ (.slice Ao40 tAi.length co40)).heap[gbAa]? = some (.cells #[.int .i64 tAc, .int .i64 tAp, .int .i64 tAr, .int .i64 tAq, .int .i64 tAs, .slice Ao40 tAi.length co40] 29 (0, 0))) := ⟨by (with_reducible repeat (first | refine blk_drewN ?_ _ | refine blk_drew ?_ | refine blk_alloc ?_ _)); refine blk_put (cs := #[.int .i64 tAc, .int .i64 tAp, .int .i64 tAr, .int .i64 tAq, .int .i64 tAs, .slice none 0 0]) ?_ 5 _ rfl; refine blk_put (cs := #[.int .i64 tAc, .int .i64 tAp, .int .i64 tAr, .int .i64 tAq, .int .i64 0, .slice none 0 0]) ?_ 4 _ rfl; refine blk_put (cs := #[.int .i64 tAc, .int .i64 tAp, .int .i64 tAr, .int .i64 0, .int .i64 0, .slice none 0 0]) ?_ 3 _ rfl; refine blk_put (cs := #[.int .i64 tAc, .int .i64 tAp, .int .i64 0, .int .i64 0, .int .i64 0, .slice none 0 0]) ?_ 2 _ rfl; refine blk_put (cs := #[.int .i64 tAc, .int .i64 0, .int .i64 0, .int .i64 0, .int .i64 0, .slice none 0 0]) ?_ 1 _ rfl; refine blk_put (cs := #[.int .i64 0, .int .i64 0, .int .i64 0, .int .i64 0, .int .i64 0, .slice none 0 0]) ?_ 0 _ rfl; (with_reducible repeat (first | refine blk_drewN ?_ _ | refine blk_drew ?_ | refine blk_alloc ?_ _)); exact BKAa.out⟩
    have n6_ : Aside0 (Below w.heap.size w ((((((w35.setCell ⟨gbAa, 0, none⟩ (.int .i64 tAc)).setCell ⟨gbAa, 1, none⟩ (.int .i64 tAp)).setCell ⟨gbAa, 2, none⟩ (.int .i64 tAr)).setCell ⟨gbAa, 3, none⟩ (.int .i64 tAq)).setCell ⟨gbAa, 4, none⟩ (.int .i64 tAs)).setCell ⟨gbAa, 5, none⟩ (.slice Ao40 tAi.length co40))) := ⟨by repeat (first | (with_reducible first | exact HB.out | apply below_alloc | apply pw_below_drewN | apply below_drew1 | refine below_set ?_ GEAe.out | refine below_set ?_ GEAd.out | refine below_set ?_ GEAb.out | refine below_set ?_ GEAa.out) | exact HB.out)⟩
    (try clear HOBc)
    (try clear HOBe)
    (try clear BKAe)
    (try clear BKAd)
    (try clear BKAb)
    (try clear BKAa)
    (try clear HB)
    generalize ((((((w35.setCell ⟨gbAa, 0, none⟩ (.int .i64 tAc)).setCell ⟨gbAa, 1, none⟩ (.int .i64 tAp)).setCell ⟨gbAa, 2, none⟩ (.int .i64 tAr)).setCell ⟨gbAa, 3, none⟩ (.int .i64 tAq)).setCell ⟨gbAa, 4, none⟩ (.int .i64 tAs)).setCell ⟨gbAa, 5, none⟩ (.slice Ao40 tAi.length co40)) = w50 at n0_ n1_ n2_ n3_ n4_ n5_ n6_ ⊢
    have HOBc := n0_
    have HOBe := n1_
    have BKAe := n2_
    have BKAd := n3_
    have BKAb := n4_
    have BKAa := n5_
    have HB := n6_
    clear n0_ n1_ n2_ n3_ n4_ n5_ n6_
    replace HOBc := Aside0.mk (Kd.R_drew HOBc.out)
    replace HOBe := Aside0.mk (Kd.R_drew HOBe.out)
    replace BKAe := Aside0.mk (blk_drew BKAe.out)
    replace BKAd := Aside0.mk (blk_drew BKAd.out)
    replace BKAb := Aside0.mk (blk_drew BKAb.out)
    replace BKAa := Aside0.mk (blk_drew BKAa.out)
    replace HB := Aside0.mk (below_drew1 HB.out)
    refine start_ (n := 13) (S := fun w' => w'.cell? ⟨gbAb, 0, none⟩ = some (.int .i64 tAg) ∧ w'.cell? ⟨gbAb, 1, none⟩ = some (.int .i64 tAj) ∧ w'.cell? ⟨gbAb, 2, none⟩ = some (.int .i64 tAk) ∧ w'.cell? ⟨gbAb, 3, none⟩ = some (.int .i64 tAm) ∧ w'.cell? ⟨gbAb, 4, none⟩ = some (.int .i64 tAn) ∧ w'.cell? ⟨gbAb, 5, none⟩ = some (.slice Ao32 tAh.length co32) ∧ w'.cell? ⟨gbAd, 0, none⟩ = some (.int .i64 a1_0) ∧ w'.cell? ⟨gbAd, 1, none⟩ = some (.int .i64 a1_1) ∧ w'.cell? ⟨gbAd, 2, none⟩ = some (.int .i64 a1_2) ∧ w'.cell? ⟨gbAd, 3, none⟩ = some (.int .i64 a1_3) ∧ w'.cell? ⟨gbAd, 4, none⟩ = some (.int .i64 a1_4) ∧ w'.cell? ⟨gbAd, 5, none⟩ = some (.slice A1_5 l1_5.length c1_5)) (ds := []) #[false, false, false, false, false, false, false, false, false, false, false, false, false] (by kernel_rfl) rfl rfl ⟨(blk_cell BKAb.out 0).trans rfl, (blk_cell BKAb.out 1).trans rfl, (blk_cell BKAb.out 2).trans rfl, (blk_cell BKAb.out 3).trans rfl, (blk_cell BKAb.out 4).trans rfl, (blk_cell BKAb.out 5).trans rfl, (blk_cell BKAd.out 0).trans rfl, (blk_cell BKAd.out 1).trans rfl, (blk_cell BKAd.out 2).trans rfl, (blk_cell BKAd.out 3).trans rfl, (blk_cell BKAd.out 4).trans rfl, (blk_cell BKAd.out 5).trans rfl⟩ (fun hHeld => ?_); refine with_tabW plaitinglaw5_FrameChecks.tab7 plaitinglaw5_FrameChecks.bits7 (fun HT_ HW_ => ?_)
    generalize w50.drew = w51 at HOBc HOBe BKAe BKAd BKAb BKAa HB hHeld ⊢
    refine tq_ 0 30 HT_ HW_ hHeld ?_
    refine tq_ 1 31 HT_ HW_ hHeld ?_
    refine tq_ 3 33 HT_ HW_ hHeld ?_
    refine tq_ 4 34 HT_ HW_ hHeld ?_
    refine oq_ 2 32 HT_ (fun K hK => ?_)
    refine gs_ Try.func22 #[.agg #[.int .i64 tAg, .int .i64 tAj, .int .i64 tAk, .int .i64 tAm, .int .i64 tAn, .slice Ao32 tAh.length co32], .agg #[.int .i64 a1_0, .int .i64 a1_1, .int .i64 a1_2, .int .i64 a1_3, .int .i64 a1_4, .slice A1_5 l1_5.length c1_5]] ?_
    with_reducible refine (frame_Check.calls tAg tAj tAk tAm tAn _ _ tAh a1_0 a1_1 a1_2 a1_3 a1_4 _ _ l1_5 tAf _ ?side1 ?side2 ?side3 ?side4 A41.out).mono ?_
    (case side1 => exact cC_ (Kd.R_reads' HOBc.out).2.2)
    (case side2 => exact (Kd.R_reads' HOBc.out).2.1)
    (case side3 => exact cC_ (Kd.C_below HR1_5.out HB.out))
    (case side4 => exact HC1_5.out)
    rintro e w52 ⟨rfl, hb⟩
    refine ⟨_, rfl, ?_⟩
    replace HOBc := Aside0.mk (Kd.R_below (pR_ HOBc.out) hb)
    replace HOBe := Aside0.mk (Kd.R_below (pR_ HOBe.out) hb)
    replace BKAe := Aside0.mk (blk_below (pB_ BKAe.out) hb)
    replace BKAd := Aside0.mk (blk_below (pB_ BKAd.out) hb)
    replace BKAb := Aside0.mk (blk_below (pB_ BKAb.out) hb)
    replace BKAa := Aside0.mk (blk_below (pB_ BKAa.out) hb)
    replace HB := Aside0.mk (below_step (pH_ HB.out) hb)
    (try clear hb)
    (try clear hb2)
    (try clear hk)
    (try clear hi)
    refine hK.out _ _ ⟨(blk_cell BKAb.out 0).trans rfl, (blk_cell BKAb.out 1).trans rfl, (blk_cell BKAb.out 2).trans rfl, (blk_cell BKAb.out 3).trans rfl, (blk_cell BKAb.out 4).trans rfl, (blk_cell BKAb.out 5).trans rfl, (blk_cell BKAd.out 0).trans rfl, (blk_cell BKAd.out 1).trans rfl, (blk_cell BKAd.out 2).trans rfl, (blk_cell BKAd.out 3).trans rfl, (blk_cell BKAd.out 4).trans rfl, (blk_cell BKAd.out 5).trans rfl⟩ (fun hHeld => ?_)
    clear hK K
    refine nq_ 32 ?_
    refine oq_ 5 35 HT_ (fun K hK => ?_)
    refine gs_ Try.func23 #[.agg #[.int .i64 tAg, .int .i64 tAj, .int .i64 tAk, .int .i64 tAm, .int .i64 tAn, .slice Ao32 tAh.length co32], .agg #[.int .i64 a1_0, .int .i64 a1_1, .int .i64 a1_2, .int .i64 a1_3, .int .i64 a1_4, .slice A1_5 l1_5.length c1_5]] ?_
    with_reducible refine (plaitingref5_Check.calls kj7 tAg tAj tAk tAm tAn _ _ tAh a1_0 a1_1 a1_2 a1_3 a1_4 _ _ l1_5 tBk _ ?side1 ?side2 ?side3 ?side4 A42.out).mono ?_
    (case side1 => exact cC_ (Kd.R_reads' HOBc.out).2.2)
    (case side2 => exact (Kd.R_reads' HOBc.out).2.1)
    (case side3 => exact cC_ (Kd.C_below HR1_5.out HB.out))
    (case side4 => exact HC1_5.out)
    rintro e w53 ⟨rfl, hb⟩
    refine ⟨_, rfl, ?_⟩
    replace HOBc := Aside0.mk (Kd.R_below (pR_ HOBc.out) hb)
    replace HOBe := Aside0.mk (Kd.R_below (pR_ HOBe.out) hb)
    replace BKAe := Aside0.mk (blk_below (pB_ BKAe.out) hb)
    replace BKAd := Aside0.mk (blk_below (pB_ BKAd.out) hb)
    replace BKAb := Aside0.mk (blk_below (pB_ BKAb.out) hb)
    replace BKAa := Aside0.mk (blk_below (pB_ BKAa.out) hb)
    replace HB := Aside0.mk (below_step (pH_ HB.out) hb)
    (try clear hb)
    (try clear hb2)
    (try clear hk)
    (try clear hi)
    refine hK.out _ _ ⟨(blk_cell BKAb.out 0).trans rfl, (blk_cell BKAb.out 1).trans rfl, (blk_cell BKAb.out 2).trans rfl, (blk_cell BKAb.out 3).trans rfl, (blk_cell BKAb.out 4).trans rfl, (blk_cell BKAb.out 5).trans rfl, (blk_cell BKAd.out 0).trans rfl, (blk_cell BKAd.out 1).trans rfl, (blk_cell BKAd.out 2).trans rfl, (blk_cell BKAd.out 3).trans rfl, (blk_cell BKAd.out 4).trans rfl, (blk_cell BKAd.out 5).trans rfl⟩ (fun hHeld => ?_)
    clear hK K
    refine nq_ 35 ?_
    refine pq_ 6 36 HT_ ?_
    refine pq_ 7 37 HT_ ?_
    refine pu_ 8 38 HT_ ?_
    refine pu_ 9 39 HT_ ?_
    refine pu_ 10 40 HT_ ?_
    refine pu_ 11 41 HT_ ?_
    refine pq_ 12 42 HT_ ?_
    refine done_ (done_of HT_.out (by kernel_rfl)) ?_
    try go_wp2
    go_meet
    case rel => exact ⟨_, (true), (by first | rfl | (simp; done) | (simp [*]; done)), H', ⟨by have := HJ7.out; first | omega | exact Nat.le_refl _⟩, ⟨by (with_reducible repeat (first | apply Kd.R_alloc | apply Kd.R_drewN | apply Kd.R_drew)); exact HOBc.out⟩, ⟨by (with_reducible repeat (first | apply Kd.R_alloc | apply Kd.R_drewN | apply Kd.R_drew)); exact HOBe.out⟩, ⟨by (with_reducible repeat (first | refine blk_drewN ?_ _ | refine blk_drew ?_ | refine blk_alloc ?_ _)); exact BKAe.out⟩, ⟨by (with_reducible repeat (first | refine blk_drewN ?_ _ | refine blk_drew ?_ | refine blk_alloc ?_ _)); exact BKAd.out⟩, ⟨by (with_reducible repeat (first | refine blk_drewN ?_ _ | refine blk_drew ?_ | refine blk_alloc ?_ _)); exact BKAb.out⟩, ⟨by (with_reducible repeat (first | refine blk_drewN ?_ _ | refine blk_drew ?_ | refine blk_alloc ?_ _)); exact BKAa.out⟩, ⟨by repeat (first | (with_reducible first | exact HB.out | apply below_alloc | apply pw_below_drewN | apply below_drew1 | refine below_set ?_ GEAe.out | refine below_set ?_ GEAd.out | refine below_set ?_ GEAb.out | refine below_set ?_ GEAa.out) | exact HB.out)⟩⟩
   case rest =>
    clear HC24
    try clear c1
    try clear c2
    try clear p2
    try clear c3
    try clear c4
    try clear c7
    try clear c13
    try clear c14
    try clear c18
    try clear c19
    try clear c20
    try clear c21
    try clear c22
    try clear c23
    try clear c25
    try clear c29
    try clear c30
    try clear c36
    try clear c37
    try clear c38
    try clear c43
    try clear c43b0
    try clear c43b1
    try clear hcz15_0
    try clear hcz15_1
    try clear hcz15_2
    try clear hcz15_3
    try clear hcz15_4
    try clear hcz15_5
    try clear hcz17_0
    try clear hcz17_1
    try clear hcz17_2
    try clear hcz17_3
    try clear hcz17_4
    try clear hcz17_5
    try clear hcz19_0
    try clear hcz19_1
    try clear hcz19_2
    try clear hcz19_3
    try clear hcz19_4
    try clear hcz19_5
    try clear hcz26_0
    try clear hcz26_1
    try clear hcz26_2
    try clear hcz26_3
    try clear hcz26_4
    try clear hcz26_5
    try clear hcz31_0
    try clear hcz31_1
    try clear hcz31_2
    try clear hcz31_3
    try clear hcz31_4
    try clear hcz31_5
    try clear hcz33_0
    try clear hcz33_1
    try clear hcz33_2
    try clear hcz33_3
    try clear hcz33_4
    try clear hcz33_5
    try clear hcz39_0
    try clear hcz39_1
    try clear hcz39_2
    try clear hcz39_3
    try clear hcz39_4
    try clear hcz39_5
    try clear hfz15_0
    try clear hfz15_1
    try clear hfz15_2
    try clear hfz15_3
    try clear hfz15_4
    try clear hfz15_5
    try clear hfz17_0
    try clear hfz17_1
    try clear hfz17_2
    try clear hfz17_3
    try clear hfz17_4
    try clear hfz17_5
    try clear hfz19_0
    try clear hfz19_1
    try clear hfz19_2
    try clear hfz19_3
    try clear hfz19_4
    try clear hfz19_5
    try clear hfz26_0
    try clear hfz26_1
    try clear hfz26_2
    try clear hfz26_3
    try clear hfz26_4
    try clear hfz26_5
    try clear hfz31_0
    try clear hfz31_1
    try clear hfz31_2
    try clear hfz31_3
    try clear hfz31_4
    try clear hfz31_5
    try clear hfz33_0
    try clear hfz33_1
    try clear hfz33_2
    try clear hfz33_3
    try clear hfz33_4
    try clear hfz33_5
    try clear hfz39_0
    try clear hfz39_1
    try clear hfz39_2
    try clear hfz39_3
    try clear hfz39_4
    try clear hfz39_5
    try clear p2
    obtain ⟨kq, x42_23, rfl, HA, HJ23, HO_Ac005, HO_Af005, BKAe, BKAd, BKAb, BKAa, HB⟩ := hcut
    cases kq with
    | zero => exact absurd HA.out (by simp [plaitinglaw5_FrameChecks.j1])
    | succ kj23 =>
     have H := HA.out
     clear HA
     simp only [plaitinglaw5_FrameChecks.j1] at H
     by_cases c54 : x42_23 = true
     ·
      subst c54
      have H1 : (some false) = some r := by rw [if_pos rfl] at H; exact H
      clear H
      have H := H1
      clear H1
      exact absurd ((Option.some.inj H).trans HRT.out) (by decide)
     replace c54 := Bool.eq_false_iff.mpr c54
     subst c54
     have H1 : ((plaitinglaw5_within.f a3 8).bind fun tAt => (if tAt = 0 then ((frame_Check.f tAg tAj tAk tAm tAn tAh a4 tAp tAr tAq tAs tAi).bind fun tCp => ((plaitingref5_Check.f kj23 tAg tAj tAk tAm tAn tAh a4 tAp tAr tAq tAs tAi).bind fun tCi => (some (tCp == tCi)))) else (if tAt = 1 then ((some (([(-1), 65536, a4] : List Int) : List Int)).bind fun yAx => ((plaitinglaw5_within.f a4 3).bind fun tAz => (if 0 ≤ tAz then (if tAz < (yAx.length : Int) then ((frame_Check.f tAg tAj tAk tAm tAn tAh tAc (rd yAx tAz) tAr tAq tAs tAi).bind fun tCa => ((plaitingref5_Check.f kj23 tAg tAj tAk tAm tAn tAh tAc (rd yAx tAz) tAr tAq tAs tAi).bind fun tBw => (some (tCa == tBw)))) else (none)) else (none)))) else (if tAt = 2 then ((plaitingref3_Slots.f tAg tAj tAk tAm tAn tAh).bind fun tBm => ((some (([(-1), tBm, a4, tAg] : List Int) : List Int)).bind fun yAu => ((plaitinglaw5_within.f a4 4).bind fun tAv => (if 0 ≤ tAv then (if tAv < (yAu.length : Int) then ((frame_Check.f tAg tAj tAk tAm tAn tAh tAc tAp (rd yAu tAv) tAq tAs tAi).bind fun tBs => ((plaitingref5_Check.f kj23 tAg tAj tAk tAm tAn tAh tAc tAp (rd yAu tAv) tAq tAs tAi).bind fun tBn => (some (tBs == tBn)))) else (none)) else (none))))) else (if tAt = 3 then ((plaitinglaw5_within.f a4 5).bind fun tBg => ((frame_Check.f tAg tAj tAk tAm tAn tAh tAc tAp tAr (wrap64 (tBg - 1)) tAs tAi).bind fun tCg => ((plaitingref5_Check.f kj23 tAg tAj tAk tAm tAn tAh tAc tAp tAr (wrap64 (tBg - 1)) tAs tAi).bind fun tCe => (some (tCg == tCe))))) else (if tAt = 4 then ((some (([(-1), 256, 1, a4] : List Int) : List Int)).bind fun yAy => ((plaitinglaw5_within.f a4 4).bind fun tBa => (if 0 ≤ tBa then (if tBa < (yAy.length : Int) then ((frame_Check.f tAg tAj tAk tAm tAn tAh tAc tAp tAr tAq (rd yAy tBa) tAi).bind fun tCc => ((plaitingref5_Check.f kj23 tAg tAj tAk tAm tAn tAh tAc tAp tAr tAq (rd yAy tBa) tAi).bind fun tBx => (some (tCc == tBx)))) else (none)) else (none)))) else (if tAt = 5 then ((some (([] : List (S26)) : List (S26))).bind fun yBj => (if yBj.length + tAi.length < 8796093022208 then ((some (yBj ++ tAi : List (S26))).bind fun yBi => (if yBi.length < 8796093022208 then ((some (yBi ++ [(⟨0, 0⟩ : S26)] : List (S26))).bind fun yBd => ((frame_Check.f tAg tAj tAk tAm tAn tAh tAc tAp tAr tAq tAs yBd).bind fun tBv => ((plaitingref5_Check.f kj23 tAg tAj tAk tAm tAn tAh tAc tAp tAr tAq tAs yBd).bind fun tBp => (some (tBv == tBp))))) else (none))) else (none))) else (if tAt = 6 then (if (tAi.length : Int) > 0 then ((plaitinglaw5_within.f a4 (tAi.length : Int)).bind fun tAw => (if 0 ≤ tAw then (if tAw < (tAi.length : Int) then ((some (tAi.set (tAw : Int).toNat (⟨a1_3, a1_4⟩ : S26) : List (S26))).bind fun yBf => ((frame_Check.f tAg tAj tAk tAm tAn tAh tAc tAp tAr tAq tAs yBf).bind fun tCd => ((plaitingref5_Check.f kj23 tAg tAj tAk tAm tAn tAh tAc tAp tAr tAq tAs yBf).bind fun tBy => (some (tCd == tBy))))) else (none)) else (none))) else ((frame_Check.f tAg tAj tAk tAm tAn tAh tAc tAp tAr tAq tAs tAi).bind fun tCq => ((plaitingref5_Check.f kj23 tAg tAj tAk tAm tAn tAh tAc tAp tAr tAq tAs tAi).bind fun tCk => (some (tCq == tCk))))) else (if tAt = 7 then ((frame_Check.f tAg tAj tAk tAm tAn tAh tAc tAp tAr tAq tAs ([] : List (S26))).bind fun tCr => ((plaitingref5_Check.f kj23 tAg tAj tAk tAm tAn tAh tAc tAp tAr tAq tAs ([] : List (S26))).bind fun tCm => (some (tCr == tCm)))) else ((frame_Check.f tAg tAj tAk tAm tAn tAh tAc tAp tAr tAq tAs tAi).bind fun tCs => ((plaitingref5_Check.f kj23 tAg tAj tAk tAm tAn tAh tAc tAp tAr tAq tAs tAi).bind fun tCn => (some (tCs == tCn))))))))))))) = some r := by rw [if_neg (show ¬ (false = true) by decide)] at H; exact H
     clear H
     have H := H1
     clear H1
     replace H := Option.bind_eq_some_iff.mp H
     obtain ⟨tAt, A550, H⟩ := H
     replace H : (if tAt = 0 then ((frame_Check.f tAg tAj tAk tAm tAn tAh a4 tAp tAr tAq tAs tAi).bind fun tCp => ((plaitingref5_Check.f kj23 tAg tAj tAk tAm tAn tAh a4 tAp tAr tAq tAs tAi).bind fun tCi => (some (tCp == tCi)))) else (if tAt = 1 then ((some (([(-1), 65536, a4] : List Int) : List Int)).bind fun yAx => ((plaitinglaw5_within.f a4 3).bind fun tAz => (if 0 ≤ tAz then (if tAz < (yAx.length : Int) then ((frame_Check.f tAg tAj tAk tAm tAn tAh tAc (rd yAx tAz) tAr tAq tAs tAi).bind fun tCa => ((plaitingref5_Check.f kj23 tAg tAj tAk tAm tAn tAh tAc (rd yAx tAz) tAr tAq tAs tAi).bind fun tBw => (some (tCa == tBw)))) else (none)) else (none)))) else (if tAt = 2 then ((plaitingref3_Slots.f tAg tAj tAk tAm tAn tAh).bind fun tBm => ((some (([(-1), tBm, a4, tAg] : List Int) : List Int)).bind fun yAu => ((plaitinglaw5_within.f a4 4).bind fun tAv => (if 0 ≤ tAv then (if tAv < (yAu.length : Int) then ((frame_Check.f tAg tAj tAk tAm tAn tAh tAc tAp (rd yAu tAv) tAq tAs tAi).bind fun tBs => ((plaitingref5_Check.f kj23 tAg tAj tAk tAm tAn tAh tAc tAp (rd yAu tAv) tAq tAs tAi).bind fun tBn => (some (tBs == tBn)))) else (none)) else (none))))) else (if tAt = 3 then ((plaitinglaw5_within.f a4 5).bind fun tBg => ((frame_Check.f tAg tAj tAk tAm tAn tAh tAc tAp tAr (wrap64 (tBg - 1)) tAs tAi).bind fun tCg => ((plaitingref5_Check.f kj23 tAg tAj tAk tAm tAn tAh tAc tAp tAr (wrap64 (tBg - 1)) tAs tAi).bind fun tCe => (some (tCg == tCe))))) else (if tAt = 4 then ((some (([(-1), 256, 1, a4] : List Int) : List Int)).bind fun yAy => ((plaitinglaw5_within.f a4 4).bind fun tBa => (if 0 ≤ tBa then (if tBa < (yAy.length : Int) then ((frame_Check.f tAg tAj tAk tAm tAn tAh tAc tAp tAr tAq (rd yAy tBa) tAi).bind fun tCc => ((plaitingref5_Check.f kj23 tAg tAj tAk tAm tAn tAh tAc tAp tAr tAq (rd yAy tBa) tAi).bind fun tBx => (some (tCc == tBx)))) else (none)) else (none)))) else (if tAt = 5 then ((some (([] : List (S26)) : List (S26))).bind fun yBj => (if yBj.length + tAi.length < 8796093022208 then ((some (yBj ++ tAi : List (S26))).bind fun yBi => (if yBi.length < 8796093022208 then ((some (yBi ++ [(⟨0, 0⟩ : S26)] : List (S26))).bind fun yBd => ((frame_Check.f tAg tAj tAk tAm tAn tAh tAc tAp tAr tAq tAs yBd).bind fun tBv => ((plaitingref5_Check.f kj23 tAg tAj tAk tAm tAn tAh tAc tAp tAr tAq tAs yBd).bind fun tBp => (some (tBv == tBp))))) else (none))) else (none))) else (if tAt = 6 then (if (tAi.length : Int) > 0 then ((plaitinglaw5_within.f a4 (tAi.length : Int)).bind fun tAw => (if 0 ≤ tAw then (if tAw < (tAi.length : Int) then ((some (tAi.set (tAw : Int).toNat (⟨a1_3, a1_4⟩ : S26) : List (S26))).bind fun yBf => ((frame_Check.f tAg tAj tAk tAm tAn tAh tAc tAp tAr tAq tAs yBf).bind fun tCd => ((plaitingref5_Check.f kj23 tAg tAj tAk tAm tAn tAh tAc tAp tAr tAq tAs yBf).bind fun tBy => (some (tCd == tBy))))) else (none)) else (none))) else ((frame_Check.f tAg tAj tAk tAm tAn tAh tAc tAp tAr tAq tAs tAi).bind fun tCq => ((plaitingref5_Check.f kj23 tAg tAj tAk tAm tAn tAh tAc tAp tAr tAq tAs tAi).bind fun tCk => (some (tCq == tCk))))) else (if tAt = 7 then ((frame_Check.f tAg tAj tAk tAm tAn tAh tAc tAp tAr tAq tAs ([] : List (S26))).bind fun tCr => ((plaitingref5_Check.f kj23 tAg tAj tAk tAm tAn tAh tAc tAp tAr tAq tAs ([] : List (S26))).bind fun tCm => (some (tCr == tCm)))) else ((frame_Check.f tAg tAj tAk tAm tAn tAh tAc tAp tAr tAq tAs tAi).bind fun tCs => ((plaitingref5_Check.f kj23 tAg tAj tAk tAm tAn tAh tAc tAp tAr tAq tAs tAi).bind fun tCn => (some (tCs == tCn)))))))))))) = some r := H
     have A55 := Aside0.mk A550
     clear A550
     by_cases c56 : tAt = 0
     ·
      rw [if_pos c56] at H
      have c56b0 : (tAt == 0) = true := beq_iff_eq.mpr c56
      have c56b1 : (tAt != 0) = false := bne_eq_false_iff_eq.mpr c56
      clear c56
      replace H := Option.bind_eq_some_iff.mp H
      obtain ⟨tCp, A570, H⟩ := H
      replace H : ((plaitingref5_Check.f kj23 tAg tAj tAk tAm tAn tAh a4 tAp tAr tAq tAs tAi).bind fun tCi => (some (tCp == tCi))) = some r := H
      have A57 := Aside0.mk A570
      clear A570
      replace H := Option.bind_eq_some_iff.mp H
      obtain ⟨tCi, A580, H⟩ := H
      replace H : (some (tCp == tCi)) = some r := H
      have A58 := Aside0.mk A580
      clear A580
      obtain rfl := Option.some.inj H
      try go_wp2_with (first | ((with_reducible refine gate_callee (f := 24) rfl ?_); refine gL_ 44 Try.func24 #[.int .i64 a3, .int .i64 8] ?_; (with_reducible refine (plaitinglaw5_within.calls a3 8 tAt _ A55.out).mono ?_); rintro e w' ⟨rfl, ⟨nd, rfl⟩⟩; refine ⟨_, rfl, ?_⟩; (try (rw [drewN_self wc]; generalize hq_ : World.drewN wc _ = wc; have n0_ : Aside0 (Kd.R (Kd.int .i64) 3 wc w.heap.size (fun _ => True) (.slice Ao32 tAh.length co32) tAh) := ⟨by rw [← hq_]; exact (pR_ HO_Ac005.out)⟩; have n1_ : Aside0 (Kd.R k26 26 wc w.heap.size (fun _ => True) (.slice Ao40 tAi.length co40) tAi) := ⟨by rw [← hq_]; exact (pR_ HO_Af005.out)⟩; have n2_ : Aside0 (wc.heap[gbAe]? = some (.cells #[.int .i64 a0_0, .int .i64 a0_1, .int .i64 a0_2, .int .i64 a0_3, .int .i64 a0_4, .slice A0_5 l0_5.length c0_5] 24 (0, 0))) := ⟨by rw [← hq_]; exact (pB_ BKAe.out)⟩; have n3_ : Aside0 (wc.heap[gbAd]? = some (.cells #[.int .i64 a1_0, .int .i64 a1_1, .int .i64 a1_2, .int .i64 a1_3, .int .i64 a1_4, .slice A1_5 l1_5.length c1_5] 29 (0, 0))) := ⟨by rw [← hq_]; exact (pB_ BKAd.out)⟩; have n4_ : Aside0 (wc.heap[gbAb]? = some (.cells #[.int .i64 tAg, .int .i64 tAj, .int .i64 tAk, .int .i64 tAm, .int .i64 tAn, .slice Ao32 tAh.length co32] 24 (0, 0))) := ⟨by rw [← hq_]; exact (pB_ BKAb.out)⟩; have n5_ : Aside0 (wc.heap[gbAa]? = some (.cells #[.int .i64 tAc, .int .i64 tAp, .int .i64 tAr, .int .i64 tAq, .int .i64 tAs, .slice Ao40 tAi.length co40] 29 (0, 0))) := ⟨by rw [← hq_]; exact (pB_ BKAa.out)⟩; have n6_ : Aside0 (Below w.heap.size w wc) := ⟨by rw [← hq_]; exact (pH_ HB.out)⟩; clear HO_Ac005 HO_Af005 BKAe BKAd BKAb BKAa HB hq_; have HO_Ac005 := n0_; have HO_Af005 := n1_; have BKAe := n2_; have BKAd := n3_; have BKAb := n4_; have BKAa := n5_; have HB := n6_; clear n0_ n1_ n2_ n3_ n4_ n5_ n6_)); have hnb59 := NBAa_Ae.out; have hnc59 := NBAe_Aa.out; have hnb60 := NBAa_Ad.out; have hnc60 := NBAd_Aa.out; have hnb61 := NBAa_Ab.out; have hnc61 := NBAb_Aa.out; have hcz62_0 : wc.cell? ⟨gbAa, 0, none⟩ = some (.int .i64 tAc) := (blk_cell BKAa.out 0).trans rfl; have hcz62_1 : wc.cell? ⟨gbAa, 1, none⟩ = some (.int .i64 tAp) := (blk_cell BKAa.out 1).trans rfl; have hcz62_2 : wc.cell? ⟨gbAa, 2, none⟩ = some (.int .i64 tAr) := (blk_cell BKAa.out 2).trans rfl; have hcz62_3 : wc.cell? ⟨gbAa, 3, none⟩ = some (.int .i64 tAq) := (blk_cell BKAa.out 3).trans rfl; have hcz62_4 : wc.cell? ⟨gbAa, 4, none⟩ = some (.int .i64 tAs) := (blk_cell BKAa.out 4).trans rfl; have hcz62_5 : wc.cell? ⟨gbAa, 5, none⟩ = some (.slice Ao40 tAi.length co40) := (blk_cell BKAa.out 5).trans rfl; have hfz62_0 := blk_frozen BKAa.out 0; have hfz62_1 := blk_frozen BKAa.out 1; have hfz62_2 := blk_frozen BKAa.out 2; have hfz62_3 := blk_frozen BKAa.out 3; have hfz62_4 := blk_frozen BKAa.out 4; have hfz62_5 := blk_frozen BKAa.out 5))
      have n0_ : Aside0 (Kd.R (Kd.int .i64) 3 (wc.setCell ⟨gbAa, 0, none⟩ (.int .i64 a4)) w.heap.size (fun _ => True) (.slice Ao32 tAh.length co32) tAh) := ⟨by (with_reducible repeat (first | apply Kd.R_alloc | apply Kd.R_drewN | apply Kd.R_drew)); exact Kd.R_mono (Kd.R_far (p := ⟨gbAa, 0, none⟩) (Kd.R_types HO_Ac005.out BKAa.out (by decide)) (fun _ hk => hk.2) (.int .i64 a4)) (fun _ hk => trivial)⟩
      have n1_ : Aside0 (Kd.R k26 26 (wc.setCell ⟨gbAa, 0, none⟩ (.int .i64 a4)) w.heap.size (fun _ => True) (.slice Ao40 tAi.length co40) tAi) := ⟨by (with_reducible repeat (first | apply Kd.R_alloc | apply Kd.R_drewN | apply Kd.R_drew)); exact Kd.R_mono (Kd.R_far (p := ⟨gbAa, 0, none⟩) (Kd.R_types HO_Af005.out BKAa.out (by decide)) (fun _ hk => hk.2) (.int .i64 a4)) (fun _ hk => trivial)⟩
      have n2_ : Aside0 ((wc.setCell ⟨gbAa, 0, none⟩ (.int .i64 a4)).heap[gbAe]? = some (.cells #[.int .i64 a0_0, .int .i64 a0_1, .int .i64 a0_2, .int .i64 a0_3, .int .i64 a0_4, .slice A0_5 l0_5.length c0_5] 24 (0, 0))) := ⟨by (with_reducible repeat (first | refine blk_drewN ?_ _ | refine blk_drew ?_ | refine blk_alloc ?_ _)); refine blk_far ?_ NBAe_Aa.out _; (with_reducible repeat (first | refine blk_drewN ?_ _ | refine blk_drew ?_ | refine blk_alloc ?_ _)); exact BKAe.out⟩
      have n3_ : Aside0 ((wc.setCell ⟨gbAa, 0, none⟩ (.int .i64 a4)).heap[gbAd]? = some (.cells #[.int .i64 a1_0, .int .i64 a1_1, .int .i64 a1_2, .int .i64 a1_3, .int .i64 a1_4, .slice A1_5 l1_5.length c1_5] 29 (0, 0))) := ⟨by (with_reducible repeat (first | refine blk_drewN ?_ _ | refine blk_drew ?_ | refine blk_alloc ?_ _)); refine blk_far ?_ NBAd_Aa.out _; (with_reducible repeat (first | refine blk_drewN ?_ _ | refine blk_drew ?_ | refine blk_alloc ?_ _)); exact BKAd.out⟩
      have n4_ : Aside0 ((wc.setCell ⟨gbAa, 0, none⟩ (.int .i64 a4)).heap[gbAb]? = some (.cells #[.int .i64 tAg, .int .i64 tAj, .int .i64 tAk, .int .i64 tAm, .int .i64 tAn, .slice Ao32 tAh.length co32] 24 (0, 0))) := ⟨by (with_reducible repeat (first | refine blk_drewN ?_ _ | refine blk_drew ?_ | refine blk_alloc ?_ _)); refine blk_far ?_ NBAb_Aa.out _; (with_reducible repeat (first | refine blk_drewN ?_ _ | refine blk_drew ?_ | refine blk_alloc ?_ _)); exact BKAb.out⟩
      have n5_ : Aside0 ((wc.setCell ⟨gbAa, 0, none⟩ (.int .i64 a4)).heap[gbAa]? = some (.cells #[.int .i64 a4, .int .i64 tAp, .int .i64 tAr, .int .i64 tAq, .int .i64 tAs, .slice Ao40 tAi.length co40] 29 (0, 0))) := ⟨by (with_reducible repeat (first | refine blk_drewN ?_ _ | refine blk_drew ?_ | refine blk_alloc ?_ _)); refine blk_put (cs := #[.int .i64 tAc, .int .i64 tAp, .int .i64 tAr, .int .i64 tAq, .int .i64 tAs, .slice Ao40 tAi.length co40]) ?_ 0 _ rfl; (with_reducible repeat (first | refine blk_drewN ?_ _ | refine blk_drew ?_ | refine blk_alloc ?_ _)); exact BKAa.out⟩
      have n6_ : Aside0 (Below w.heap.size w (wc.setCell ⟨gbAa, 0, none⟩ (.int .i64 a4))) := ⟨by repeat (first | (with_reducible first | exact HB.out | apply below_alloc | apply pw_below_drewN | apply below_drew1 | refine below_set ?_ GEAe.out | refine below_set ?_ GEAd.out | refine below_set ?_ GEAb.out | refine below_set ?_ GEAa.out) | exact HB.out)⟩
      (try clear HO_Ac005)
      (try clear HO_Af005)
      (try clear BKAe)
      (try clear BKAd)
      (try clear BKAb)
      (try clear BKAa)
      (try clear HB)
      generalize (wc.setCell ⟨gbAa, 0, none⟩ (.int .i64 a4)) = w63 at n0_ n1_ n2_ n3_ n4_ n5_ n6_ ⊢
      have HO_Ac005 := n0_
      have HO_Af005 := n1_
      have BKAe := n2_
      have BKAd := n3_
      have BKAb := n4_
      have BKAa := n5_
      have HB := n6_
      clear n0_ n1_ n2_ n3_ n4_ n5_ n6_
      replace HO_Ac005 := Aside0.mk (Kd.R_drew HO_Ac005.out)
      replace HO_Af005 := Aside0.mk (Kd.R_drew HO_Af005.out)
      replace BKAe := Aside0.mk (blk_drew BKAe.out)
      replace BKAd := Aside0.mk (blk_drew BKAd.out)
      replace BKAb := Aside0.mk (blk_drew BKAb.out)
      replace BKAa := Aside0.mk (blk_drew BKAa.out)
      replace HB := Aside0.mk (below_drew1 HB.out)
      refine start_ (n := 8) (S := fun w' => w'.cell? ⟨gbAb, 0, none⟩ = some (.int .i64 tAg) ∧ w'.cell? ⟨gbAb, 1, none⟩ = some (.int .i64 tAj) ∧ w'.cell? ⟨gbAb, 2, none⟩ = some (.int .i64 tAk) ∧ w'.cell? ⟨gbAb, 3, none⟩ = some (.int .i64 tAm) ∧ w'.cell? ⟨gbAb, 4, none⟩ = some (.int .i64 tAn) ∧ w'.cell? ⟨gbAb, 5, none⟩ = some (.slice Ao32 tAh.length co32) ∧ w'.cell? ⟨gbAa, 0, none⟩ = some (.int .i64 a4) ∧ w'.cell? ⟨gbAa, 1, none⟩ = some (.int .i64 tAp) ∧ w'.cell? ⟨gbAa, 2, none⟩ = some (.int .i64 tAr) ∧ w'.cell? ⟨gbAa, 3, none⟩ = some (.int .i64 tAq) ∧ w'.cell? ⟨gbAa, 4, none⟩ = some (.int .i64 tAs) ∧ w'.cell? ⟨gbAa, 5, none⟩ = some (.slice Ao40 tAi.length co40)) (ds := []) #[false, false, false, false, false, false, false, false] (by kernel_rfl) rfl rfl ⟨(blk_cell BKAb.out 0).trans rfl, (blk_cell BKAb.out 1).trans rfl, (blk_cell BKAb.out 2).trans rfl, (blk_cell BKAb.out 3).trans rfl, (blk_cell BKAb.out 4).trans rfl, (blk_cell BKAb.out 5).trans rfl, (blk_cell BKAa.out 0).trans rfl, (blk_cell BKAa.out 1).trans rfl, (blk_cell BKAa.out 2).trans rfl, (blk_cell BKAa.out 3).trans rfl, (blk_cell BKAa.out 4).trans rfl, (blk_cell BKAa.out 5).trans rfl⟩ (fun hHeld => ?_); refine with_tabW plaitinglaw5_FrameChecks.tab27 plaitinglaw5_FrameChecks.bits27 (fun HT_ HW_ => ?_)
      generalize w63.drew = w64 at HO_Ac005 HO_Af005 BKAe BKAd BKAb BKAa HB hHeld ⊢
      refine tq_ 0 117 HT_ HW_ hHeld ?_
      refine tq_ 1 118 HT_ HW_ hHeld ?_
      refine tq_ 3 120 HT_ HW_ hHeld ?_
      refine tq_ 4 121 HT_ HW_ hHeld ?_
      refine oq_ 2 119 HT_ (fun K hK => ?_)
      refine gs_ Try.func22 #[.agg #[.int .i64 tAg, .int .i64 tAj, .int .i64 tAk, .int .i64 tAm, .int .i64 tAn, .slice Ao32 tAh.length co32], .agg #[.int .i64 a4, .int .i64 tAp, .int .i64 tAr, .int .i64 tAq, .int .i64 tAs, .slice Ao40 tAi.length co40]] ?_
      with_reducible refine (frame_Check.calls tAg tAj tAk tAm tAn _ _ tAh a4 tAp tAr tAq tAs _ _ tAi tCp _ ?side1 ?side2 ?side3 ?side4 A57.out).mono ?_
      (case side1 => exact cC_ (Kd.R_reads' HO_Ac005.out).2.2)
      (case side2 => exact (Kd.R_reads' HO_Ac005.out).2.1)
      (case side3 => exact cC_ (Kd.R_reads' HO_Af005.out).2.2)
      (case side4 => exact (Kd.R_reads' HO_Af005.out).2.1)
      rintro e w65 ⟨rfl, hb⟩
      refine ⟨_, rfl, ?_⟩
      replace HO_Ac005 := Aside0.mk (Kd.R_below (pR_ HO_Ac005.out) hb)
      replace HO_Af005 := Aside0.mk (Kd.R_below (pR_ HO_Af005.out) hb)
      replace BKAe := Aside0.mk (blk_below (pB_ BKAe.out) hb)
      replace BKAd := Aside0.mk (blk_below (pB_ BKAd.out) hb)
      replace BKAb := Aside0.mk (blk_below (pB_ BKAb.out) hb)
      replace BKAa := Aside0.mk (blk_below (pB_ BKAa.out) hb)
      replace HB := Aside0.mk (below_step (pH_ HB.out) hb)
      (try clear hb)
      (try clear hb2)
      (try clear hk)
      (try clear hi)
      refine hK.out _ _ ⟨(blk_cell BKAb.out 0).trans rfl, (blk_cell BKAb.out 1).trans rfl, (blk_cell BKAb.out 2).trans rfl, (blk_cell BKAb.out 3).trans rfl, (blk_cell BKAb.out 4).trans rfl, (blk_cell BKAb.out 5).trans rfl, (blk_cell BKAa.out 0).trans rfl, (blk_cell BKAa.out 1).trans rfl, (blk_cell BKAa.out 2).trans rfl, (blk_cell BKAa.out 3).trans rfl, (blk_cell BKAa.out 4).trans rfl, (blk_cell BKAa.out 5).trans rfl⟩ (fun hHeld => ?_)
      clear hK K
      refine nq_ 119 ?_
      refine oq_ 5 122 HT_ (fun K hK => ?_)
      refine gs_ Try.func23 #[.agg #[.int .i64 tAg, .int .i64 tAj, .int .i64 tAk, .int .i64 tAm, .int .i64 tAn, .slice Ao32 tAh.length co32], .agg #[.int .i64 a4, .int .i64 tAp, .int .i64 tAr, .int .i64 tAq, .int .i64 tAs, .slice Ao40 tAi.length co40]] ?_
      with_reducible refine (plaitingref5_Check.calls kj23 tAg tAj tAk tAm tAn _ _ tAh a4 tAp tAr tAq tAs _ _ tAi tCi _ ?side1 ?side2 ?side3 ?side4 A58.out).mono ?_
      (case side1 => exact cC_ (Kd.R_reads' HO_Ac005.out).2.2)
      (case side2 => exact (Kd.R_reads' HO_Ac005.out).2.1)
      (case side3 => exact cC_ (Kd.R_reads' HO_Af005.out).2.2)
      (case side4 => exact (Kd.R_reads' HO_Af005.out).2.1)
      rintro e w66 ⟨rfl, hb⟩
      refine ⟨_, rfl, ?_⟩
      replace HO_Ac005 := Aside0.mk (Kd.R_below (pR_ HO_Ac005.out) hb)
      replace HO_Af005 := Aside0.mk (Kd.R_below (pR_ HO_Af005.out) hb)
      replace BKAe := Aside0.mk (blk_below (pB_ BKAe.out) hb)
      replace BKAd := Aside0.mk (blk_below (pB_ BKAd.out) hb)
      replace BKAb := Aside0.mk (blk_below (pB_ BKAb.out) hb)
      replace BKAa := Aside0.mk (blk_below (pB_ BKAa.out) hb)
      replace HB := Aside0.mk (below_step (pH_ HB.out) hb)
      (try clear hb)
      (try clear hb2)
      (try clear hk)
      (try clear hi)
      refine hK.out _ _ ⟨(blk_cell BKAb.out 0).trans rfl, (blk_cell BKAb.out 1).trans rfl, (blk_cell BKAb.out 2).trans rfl, (blk_cell BKAb.out 3).trans rfl, (blk_cell BKAb.out 4).trans rfl, (blk_cell BKAb.out 5).trans rfl, (blk_cell BKAa.out 0).trans rfl, (blk_cell BKAa.out 1).trans rfl, (blk_cell BKAa.out 2).trans rfl, (blk_cell BKAa.out 3).trans rfl, (blk_cell BKAa.out 4).trans rfl, (blk_cell BKAa.out 5).trans rfl⟩ (fun hHeld => ?_)
      clear hK K
      refine nq_ 122 ?_
      refine pq_ 6 123 HT_ ?_
      refine pq_ 7 10 HT_ ?_
      refine done_ (done_of HT_.out (by kernel_rfl)) ?_
      try go_wp2
      go_ret
      exact ⟨by first | rfl | (simp [errW_none, errW_some] <;> rfl) | (simp [*, errW_none, errW_some] <;> rfl), by repeat (first | (with_reducible first | exact HB.out | apply below_alloc | apply pw_below_drewN | apply below_drew1 | refine below_set ?_ GEAe.out | refine below_set ?_ GEAd.out | refine below_set ?_ GEAb.out | refine below_set ?_ GEAa.out) | exact HB.out)⟩
     rw [if_neg c56] at H
     have c56b0 : (tAt == 0) = false := beq_eq_false_iff_ne.mpr c56
     have c56b1 : (tAt != 0) = true := bne_iff_ne.mpr c56
     by_cases c67 : tAt = 1
     ·
      rw [if_pos c67] at H
      have c67b0 : (tAt == 1) = true := beq_iff_eq.mpr c67
      have c67b1 : (tAt != 1) = false := bne_eq_false_iff_eq.mpr c67
      clear c67
      obtain ⟨yAx, hyAx⟩ : ∃ y_ : List Int, y_ = (([(-1), 65536, a4] : List Int)) := ⟨_, rfl⟩
      replace H : ((plaitinglaw5_within.f a4 3).bind fun tAz => (if 0 ≤ tAz then (if tAz < (yAx.length : Int) then ((frame_Check.f tAg tAj tAk tAm tAn tAh tAc (rd yAx tAz) tAr tAq tAs tAi).bind fun tCa => ((plaitingref5_Check.f kj23 tAg tAj tAk tAm tAn tAh tAc (rd yAx tAz) tAr tAq tAs tAi).bind fun tBw => (some (tCa == tBw)))) else (none)) else (none))) = some r := by first | (rw [hyAx]; with_reducible exact H) | (have H2_ := (Option.bind_some _ _).symm.trans H; rw [hyAx]; with_reducible exact H2_) | (have H2_ := (Option.bind_some _ _).symm.trans H; with_reducible exact H2_) | with_reducible exact H | (rw [hyAx]; exact H) | exact H
      have NyAx := Aside0.mk hyAx
      clear hyAx
      replace H := Option.bind_eq_some_iff.mp H
      obtain ⟨tAz, A680, H⟩ := H
      replace H : (if 0 ≤ tAz then (if tAz < (yAx.length : Int) then ((frame_Check.f tAg tAj tAk tAm tAn tAh tAc (rd yAx tAz) tAr tAq tAs tAi).bind fun tCa => ((plaitingref5_Check.f kj23 tAg tAj tAk tAm tAn tAh tAc (rd yAx tAz) tAr tAq tAs tAi).bind fun tBw => (some (tCa == tBw)))) else (none)) else (none)) = some r := H
      have A68 := Aside0.mk A680
      clear A680
      by_cases c69 : 0 ≤ tAz
      rotate_left
      ·
       rw [if_neg c69] at H
       exact absurd H (by simp)
      rw [if_pos c69] at H
      have c69b0 : decide (0 ≤ tAz) = true := decide_eq_true c69
      clear c69
      by_cases c70 : tAz < (yAx.length : Int)
      rotate_left
      ·
       rw [if_neg c70] at H
       exact absurd H (by simp)
      rw [if_pos c70] at H
      have c70b0 : decide (tAz < (yAx.length : Int)) = true := decide_eq_true c70
      clear c70
      replace H := Option.bind_eq_some_iff.mp H
      obtain ⟨tCa, A710, H⟩ := H
      replace H : ((plaitingref5_Check.f kj23 tAg tAj tAk tAm tAn tAh tAc (rd yAx tAz) tAr tAq tAs tAi).bind fun tBw => (some (tCa == tBw))) = some r := H
      have A71 := Aside0.mk A710
      clear A710
      replace H := Option.bind_eq_some_iff.mp H
      obtain ⟨tBw, A720, H⟩ := H
      replace H : (some (tCa == tBw)) = some r := H
      have A72 := Aside0.mk A720
      clear A720
      obtain rfl := Option.some.inj H
      try go_wp2_with (first | ((with_reducible refine gate_callee (f := 24) rfl ?_); refine gL_ 44 Try.func24 #[.int .i64 a3, .int .i64 8] ?_; (with_reducible refine (plaitinglaw5_within.calls a3 8 tAt _ A55.out).mono ?_); rintro e w' ⟨rfl, ⟨nd, rfl⟩⟩; refine ⟨_, rfl, ?_⟩; (try (rw [drewN_self wc]; generalize hq_ : World.drewN wc _ = wc; have n0_ : Aside0 (Kd.R (Kd.int .i64) 3 wc w.heap.size (fun _ => True) (.slice Ao32 tAh.length co32) tAh) := ⟨by rw [← hq_]; exact (pR_ HO_Ac005.out)⟩; have n1_ : Aside0 (Kd.R k26 26 wc w.heap.size (fun _ => True) (.slice Ao40 tAi.length co40) tAi) := ⟨by rw [← hq_]; exact (pR_ HO_Af005.out)⟩; have n2_ : Aside0 (wc.heap[gbAe]? = some (.cells #[.int .i64 a0_0, .int .i64 a0_1, .int .i64 a0_2, .int .i64 a0_3, .int .i64 a0_4, .slice A0_5 l0_5.length c0_5] 24 (0, 0))) := ⟨by rw [← hq_]; exact (pB_ BKAe.out)⟩; have n3_ : Aside0 (wc.heap[gbAd]? = some (.cells #[.int .i64 a1_0, .int .i64 a1_1, .int .i64 a1_2, .int .i64 a1_3, .int .i64 a1_4, .slice A1_5 l1_5.length c1_5] 29 (0, 0))) := ⟨by rw [← hq_]; exact (pB_ BKAd.out)⟩; have n4_ : Aside0 (wc.heap[gbAb]? = some (.cells #[.int .i64 tAg, .int .i64 tAj, .int .i64 tAk, .int .i64 tAm, .int .i64 tAn, .slice Ao32 tAh.length co32] 24 (0, 0))) := ⟨by rw [← hq_]; exact (pB_ BKAb.out)⟩; have n5_ : Aside0 (wc.heap[gbAa]? = some (.cells #[.int .i64 tAc, .int .i64 tAp, .int .i64 tAr, .int .i64 tAq, .int .i64 tAs, .slice Ao40 tAi.length co40] 29 (0, 0))) := ⟨by rw [← hq_]; exact (pB_ BKAa.out)⟩; have n6_ : Aside0 (Below w.heap.size w wc) := ⟨by rw [← hq_]; exact (pH_ HB.out)⟩; clear HO_Ac005 HO_Af005 BKAe BKAd BKAb BKAa HB hq_; have HO_Ac005 := n0_; have HO_Af005 := n1_; have BKAe := n2_; have BKAd := n3_; have BKAb := n4_; have BKAa := n5_; have HB := n6_; clear n0_ n1_ n2_ n3_ n4_ n5_ n6_))) | ((with_reducible refine gate_dst (N := 52) rfl ?_); (try (refine gate_guard (by rfl) ?_; dsimp only)); refine Kd.R_lit (Kd.int .i64) _ 3 ?hg (N := 52) ?hd (xs := ([(-1), 65536, a4] : List Int)) (inner := [.int .i64 (-1), .int .i64 65536, .int .i64 a4]) (ok := fun _ => True) (okp := fun _ => True) ?hr ?hp (fun _ hk => hk) trivial (Below.refl _ _) (Nat.le_refl _) (by simp) ?_; (case hd => rfl); (case hg => rfl); (case hr => first | (go_simp; done) | (go_simp; rfl)); (case hp => exact (Reps.one (show Kd.M (Kd.int .i64) _ _ _ (-1) [.int .i64 (-1)] from rfl) (Reps.one (show Kd.M (Kd.int .i64) _ _ _ 65536 [.int .i64 65536] from rfl) (Reps.one (show Kd.M (Kd.int .i64) _ _ _ a4 [.int .i64 a4] from rfl) (Reps.none _ _))))); intro vDn w73 ho74 hb hg_ hnew_; clear hg_ hnew_; (first | rw [← NyAx.out] at ho74 | (simp only [Int.reduceToNat] at ho74; rw [← NyAx.out] at ho74)); have HOBr := Aside0.mk (Kd.R_lower (Kd.R_new' ho74 (Kd.R_lt (pR_ HO_Ac005.out))) (below_size (pH_ HB.out))); replace HO_Ac005 := Aside0.mk (Kd.R_elder' (pR_ HO_Ac005.out) (Kd.R_base ho74) hb); replace HO_Af005 := Aside0.mk (Kd.R_below (pR_ HO_Af005.out) hb); replace BKAe := Aside0.mk (blk_below (pB_ BKAe.out) hb); replace BKAd := Aside0.mk (blk_below (pB_ BKAd.out) hb); replace BKAb := Aside0.mk (blk_below (pB_ BKAb.out) hb); replace BKAa := Aside0.mk (blk_below (pB_ BKAa.out) hb); replace HB := Aside0.mk (below_step (pH_ HB.out) hb); clear hb ho74) | ((with_reducible refine gate_callee (f := 24) rfl ?_); refine gL_ 54 Try.func24 #[.int .i64 a4, .int .i64 3] ?_; (with_reducible refine (plaitinglaw5_within.calls a4 3 tAz _ A68.out).mono ?_); rintro e w' ⟨rfl, ⟨nd, rfl⟩⟩; refine ⟨_, rfl, ?_⟩; (try (rw [drewN_self w73]; generalize hq_ : World.drewN w73 _ = w73; have n0_ : Aside0 (Kd.R (Kd.int .i64) 3 w73 w.heap.size (fun k_ => some k_ ≠ (.slice Ao32 tAh.length co32 : Value).ownBlock) vDn yAx) := ⟨by rw [← hq_]; exact (by (with_reducible repeat (first | apply Kd.R_alloc | apply Kd.R_drewN | apply Kd.R_drew)); exact Kd.R_mono HOBr.out (fun _ hk => hk.2))⟩; have n1_ : Aside0 (Kd.R (Kd.int .i64) 3 w73 w.heap.size (fun k_ => some k_ ≠ (vDn : Value).ownBlock) (.slice Ao32 tAh.length co32) tAh) := ⟨by rw [← hq_]; exact (by (with_reducible repeat (first | apply Kd.R_alloc | apply Kd.R_drewN | apply Kd.R_drew)); exact Kd.R_mono HO_Ac005.out (fun _ hk => hk.2))⟩; have n2_ : Aside0 (Kd.R k26 26 w73 w.heap.size (fun _ => True) (.slice Ao40 tAi.length co40) tAi) := ⟨by rw [← hq_]; exact (pR_ HO_Af005.out)⟩; have n3_ : Aside0 (w73.heap[gbAe]? = some (.cells #[.int .i64 a0_0, .int .i64 a0_1, .int .i64 a0_2, .int .i64 a0_3, .int .i64 a0_4, .slice A0_5 l0_5.length c0_5] 24 (0, 0))) := ⟨by rw [← hq_]; exact (pB_ BKAe.out)⟩; have n4_ : Aside0 (w73.heap[gbAd]? = some (.cells #[.int .i64 a1_0, .int .i64 a1_1, .int .i64 a1_2, .int .i64 a1_3, .int .i64 a1_4, .slice A1_5 l1_5.length c1_5] 29 (0, 0))) := ⟨by rw [← hq_]; exact (pB_ BKAd.out)⟩; have n5_ : Aside0 (w73.heap[gbAb]? = some (.cells #[.int .i64 tAg, .int .i64 tAj, .int .i64 tAk, .int .i64 tAm, .int .i64 tAn, .slice Ao32 tAh.length co32] 24 (0, 0))) := ⟨by rw [← hq_]; exact (pB_ BKAb.out)⟩; have n6_ : Aside0 (w73.heap[gbAa]? = some (.cells #[.int .i64 tAc, .int .i64 tAp, .int .i64 tAr, .int .i64 tAq, .int .i64 tAs, .slice Ao40 tAi.length co40] 29 (0, 0))) := ⟨by rw [← hq_]; exact (pB_ BKAa.out)⟩; have n7_ : Aside0 (Below w.heap.size w w73) := ⟨by rw [← hq_]; exact (pH_ HB.out)⟩; clear HOBr HO_Ac005 HO_Af005 BKAe BKAd BKAb BKAa HB hq_; have HOBr := n0_; have HO_Ac005 := n1_; have HO_Af005 := n2_; have BKAe := n3_; have BKAd := n4_; have BKAb := n5_; have BKAa := n6_; have HB := n7_; clear n0_ n1_ n2_ n3_ n4_ n5_ n6_ n7_)); obtain ⟨Ao75, co75, eo75⟩ := Kd.R_slice HOBr.out; subst eo75; have pBz : 0 ≤ (tAz : Int) := of_decide_eq_true (by first | (with_reducible assumption) | assumption); have qBz : tAz < (yAx.length : Int) := of_decide_eq_true (by first | (with_reducible assumption) | assumption); obtain ⟨adBz, eBz, hxBz_0⟩ := Kd.at_int (Kd.R_reads' HOBr.out).2.2 tAz pBz qBz; cases eBz; replace pBz := eq_true pBz; replace qBz := eq_true qBz; have hnb76 := NBAa_Ae.out; have hnc76 := NBAe_Aa.out; have hnb77 := NBAa_Ad.out; have hnc77 := NBAd_Aa.out; have hnb78 := NBAa_Ab.out; have hnc78 := NBAb_Aa.out; have hcz79_0 : w73.cell? ⟨gbAa, 0, none⟩ = some (.int .i64 tAc) := (blk_cell BKAa.out 0).trans rfl; have hcz79_1 : w73.cell? ⟨gbAa, 1, none⟩ = some (.int .i64 tAp) := (blk_cell BKAa.out 1).trans rfl; have hcz79_2 : w73.cell? ⟨gbAa, 2, none⟩ = some (.int .i64 tAr) := (blk_cell BKAa.out 2).trans rfl; have hcz79_3 : w73.cell? ⟨gbAa, 3, none⟩ = some (.int .i64 tAq) := (blk_cell BKAa.out 3).trans rfl; have hcz79_4 : w73.cell? ⟨gbAa, 4, none⟩ = some (.int .i64 tAs) := (blk_cell BKAa.out 4).trans rfl; have hcz79_5 : w73.cell? ⟨gbAa, 5, none⟩ = some (.slice Ao40 tAi.length co40) := (blk_cell BKAa.out 5).trans rfl; have hfz79_0 := blk_frozen BKAa.out 0; have hfz79_1 := blk_frozen BKAa.out 1; have hfz79_2 := blk_frozen BKAa.out 2; have hfz79_3 := blk_frozen BKAa.out 3; have hfz79_4 := blk_frozen BKAa.out 4; have hfz79_5 := blk_frozen BKAa.out 5))
      have n0_ : Aside0 (Kd.R (Kd.int .i64) 3 (w73.setCell ⟨gbAa, 1, none⟩ (.int .i64 (rd yAx tAz))) w.heap.size (fun k_ => some k_ ≠ (.slice (some adBz) yAx.length co75 : Value).ownBlock) (.slice Ao32 tAh.length co32) tAh) := ⟨by (with_reducible repeat (first | apply Kd.R_alloc | apply Kd.R_drewN | apply Kd.R_drew)); exact Kd.R_mono (Kd.R_far (p := ⟨gbAa, 1, none⟩) (Kd.R_types HO_Ac005.out BKAa.out (by decide)) (fun _ hk => hk.2) (.int .i64 (rd yAx tAz))) (fun _ hk => by first | exact hk.1.2 | exact hk.1)⟩
      have n1_ : Aside0 (Kd.R k26 26 (w73.setCell ⟨gbAa, 1, none⟩ (.int .i64 (rd yAx tAz))) w.heap.size (fun _ => True) (.slice Ao40 tAi.length co40) tAi) := ⟨by (with_reducible repeat (first | apply Kd.R_alloc | apply Kd.R_drewN | apply Kd.R_drew)); exact Kd.R_mono (Kd.R_far (p := ⟨gbAa, 1, none⟩) (Kd.R_types HO_Af005.out BKAa.out (by decide)) (fun _ hk => hk.2) (.int .i64 (rd yAx tAz))) (fun _ hk => trivial)⟩
      have n2_ : Aside0 (Kd.R (Kd.int .i64) 3 (w73.setCell ⟨gbAa, 1, none⟩ (.int .i64 (rd yAx tAz))) w.heap.size (fun k_ => some k_ ≠ (.slice Ao32 tAh.length co32 : Value).ownBlock) (.slice (some adBz) yAx.length co75) yAx) := ⟨by (with_reducible repeat (first | apply Kd.R_alloc | apply Kd.R_drewN | apply Kd.R_drew)); exact Kd.R_mono (Kd.R_far (p := ⟨gbAa, 1, none⟩) (Kd.R_types HOBr.out BKAa.out (by decide)) (fun _ hk => hk.2) (.int .i64 (rd yAx tAz))) (fun _ hk => by first | exact hk.1.2 | exact hk.1)⟩
      have n3_ : Aside0 ((w73.setCell ⟨gbAa, 1, none⟩ (.int .i64 (rd yAx tAz))).heap[gbAe]? = some (.cells #[.int .i64 a0_0, .int .i64 a0_1, .int .i64 a0_2, .int .i64 a0_3, .int .i64 a0_4, .slice A0_5 l0_5.length c0_5] 24 (0, 0))) := ⟨by (with_reducible repeat (first | refine blk_drewN ?_ _ | refine blk_drew ?_ | refine blk_alloc ?_ _)); refine blk_far ?_ NBAe_Aa.out _; (with_reducible repeat (first | refine blk_drewN ?_ _ | refine blk_drew ?_ | refine blk_alloc ?_ _)); exact BKAe.out⟩
      have n4_ : Aside0 ((w73.setCell ⟨gbAa, 1, none⟩ (.int .i64 (rd yAx tAz))).heap[gbAd]? = some (.cells #[.int .i64 a1_0, .int .i64 a1_1, .int .i64 a1_2, .int .i64 a1_3, .int .i64 a1_4, .slice A1_5 l1_5.length c1_5] 29 (0, 0))) := ⟨by (with_reducible repeat (first | refine blk_drewN ?_ _ | refine blk_drew ?_ | refine blk_alloc ?_ _)); refine blk_far ?_ NBAd_Aa.out _; (with_reducible repeat (first | refine blk_drewN ?_ _ | refine blk_drew ?_ | refine blk_alloc ?_ _)); exact BKAd.out⟩
      have n5_ : Aside0 ((w73.setCell ⟨gbAa, 1, none⟩ (.int .i64 (rd yAx tAz))).heap[gbAb]? = some (.cells #[.int .i64 tAg, .int .i64 tAj, .int .i64 tAk, .int .i64 tAm, .int .i64 tAn, .slice Ao32 tAh.length co32] 24 (0, 0))) := ⟨by (with_reducible repeat (first | refine blk_drewN ?_ _ | refine blk_drew ?_ | refine blk_alloc ?_ _)); refine blk_far ?_ NBAb_Aa.out _; (with_reducible repeat (first | refine blk_drewN ?_ _ | refine blk_drew ?_ | refine blk_alloc ?_ _)); exact BKAb.out⟩
      have n6_ : Aside0 ((w73.setCell ⟨gbAa, 1, none⟩ (.int .i64 (rd yAx tAz))).heap[gbAa]? = some (.cells #[.int .i64 tAc, .int .i64 (rd yAx tAz), .int .i64 tAr, .int .i64 tAq, .int .i64 tAs, .slice Ao40 tAi.length co40] 29 (0, 0))) := ⟨by (with_reducible repeat (first | refine blk_drewN ?_ _ | refine blk_drew ?_ | refine blk_alloc ?_ _)); refine blk_put (cs := #[.int .i64 tAc, .int .i64 tAp, .int .i64 tAr, .int .i64 tAq, .int .i64 tAs, .slice Ao40 tAi.length co40]) ?_ 1 _ rfl; (with_reducible repeat (first | refine blk_drewN ?_ _ | refine blk_drew ?_ | refine blk_alloc ?_ _)); exact BKAa.out⟩
      have n7_ : Aside0 (Below w.heap.size w (w73.setCell ⟨gbAa, 1, none⟩ (.int .i64 (rd yAx tAz)))) := ⟨by repeat (first | (with_reducible first | exact HB.out | apply below_alloc | apply pw_below_drewN | apply below_drew1 | refine below_set ?_ GEAe.out | refine below_set ?_ GEAd.out | refine below_set ?_ GEAb.out | refine below_set ?_ GEAa.out) | exact HB.out)⟩
      (try clear HO_Ac005)
      (try clear HO_Af005)
      (try clear HOBr)
      (try clear BKAe)
      (try clear BKAd)
      (try clear BKAb)
      (try clear BKAa)
      (try clear HB)
      generalize (w73.setCell ⟨gbAa, 1, none⟩ (.int .i64 (rd yAx tAz))) = w80 at n0_ n1_ n2_ n3_ n4_ n5_ n6_ n7_ ⊢
      have HO_Ac005 := n0_
      have HO_Af005 := n1_
      have HOBr := n2_
      have BKAe := n3_
      have BKAd := n4_
      have BKAb := n5_
      have BKAa := n6_
      have HB := n7_
      clear n0_ n1_ n2_ n3_ n4_ n5_ n6_ n7_
      replace HO_Ac005 := Aside0.mk (Kd.R_drew HO_Ac005.out)
      replace HO_Af005 := Aside0.mk (Kd.R_drew HO_Af005.out)
      replace HOBr := Aside0.mk (Kd.R_drew HOBr.out)
      replace BKAe := Aside0.mk (blk_drew BKAe.out)
      replace BKAd := Aside0.mk (blk_drew BKAd.out)
      replace BKAb := Aside0.mk (blk_drew BKAb.out)
      replace BKAa := Aside0.mk (blk_drew BKAa.out)
      replace HB := Aside0.mk (below_drew1 HB.out)
      refine start_ (n := 8) (S := fun w' => w'.cell? ⟨gbAb, 0, none⟩ = some (.int .i64 tAg) ∧ w'.cell? ⟨gbAb, 1, none⟩ = some (.int .i64 tAj) ∧ w'.cell? ⟨gbAb, 2, none⟩ = some (.int .i64 tAk) ∧ w'.cell? ⟨gbAb, 3, none⟩ = some (.int .i64 tAm) ∧ w'.cell? ⟨gbAb, 4, none⟩ = some (.int .i64 tAn) ∧ w'.cell? ⟨gbAb, 5, none⟩ = some (.slice Ao32 tAh.length co32) ∧ w'.cell? ⟨gbAa, 0, none⟩ = some (.int .i64 tAc) ∧ w'.cell? ⟨gbAa, 1, none⟩ = some (.int .i64 (rd yAx tAz)) ∧ w'.cell? ⟨gbAa, 2, none⟩ = some (.int .i64 tAr) ∧ w'.cell? ⟨gbAa, 3, none⟩ = some (.int .i64 tAq) ∧ w'.cell? ⟨gbAa, 4, none⟩ = some (.int .i64 tAs) ∧ w'.cell? ⟨gbAa, 5, none⟩ = some (.slice Ao40 tAi.length co40)) (ds := []) #[false, false, false, false, false, false, false, false] (by kernel_rfl) rfl rfl ⟨(blk_cell BKAb.out 0).trans rfl, (blk_cell BKAb.out 1).trans rfl, (blk_cell BKAb.out 2).trans rfl, (blk_cell BKAb.out 3).trans rfl, (blk_cell BKAb.out 4).trans rfl, (blk_cell BKAb.out 5).trans rfl, (blk_cell BKAa.out 0).trans rfl, (blk_cell BKAa.out 1).trans rfl, (blk_cell BKAa.out 2).trans rfl, (blk_cell BKAa.out 3).trans rfl, (blk_cell BKAa.out 4).trans rfl, (blk_cell BKAa.out 5).trans rfl⟩ (fun hHeld => ?_); refine with_tabW plaitinglaw5_FrameChecks.tab27 plaitinglaw5_FrameChecks.bits27 (fun HT_ HW_ => ?_)
      generalize w80.drew = w81 at HO_Ac005 HO_Af005 HOBr BKAe BKAd BKAb BKAa HB hHeld ⊢
      refine tq_ 0 117 HT_ HW_ hHeld ?_
      refine tq_ 1 118 HT_ HW_ hHeld ?_
      refine tq_ 3 120 HT_ HW_ hHeld ?_
      refine tq_ 4 121 HT_ HW_ hHeld ?_
      refine oq_ 2 119 HT_ (fun K hK => ?_)
      refine gs_ Try.func22 #[.agg #[.int .i64 tAg, .int .i64 tAj, .int .i64 tAk, .int .i64 tAm, .int .i64 tAn, .slice Ao32 tAh.length co32], .agg #[.int .i64 tAc, .int .i64 (rd yAx tAz), .int .i64 tAr, .int .i64 tAq, .int .i64 tAs, .slice Ao40 tAi.length co40]] ?_
      with_reducible refine (frame_Check.calls tAg tAj tAk tAm tAn _ _ tAh tAc (rd yAx tAz) tAr tAq tAs _ _ tAi tCa _ ?side1 ?side2 ?side3 ?side4 A71.out).mono ?_
      (case side1 => exact cC_ (Kd.R_reads' HO_Ac005.out).2.2)
      (case side2 => exact (Kd.R_reads' HO_Ac005.out).2.1)
      (case side3 => exact cC_ (Kd.R_reads' HO_Af005.out).2.2)
      (case side4 => exact (Kd.R_reads' HO_Af005.out).2.1)
      rintro e w82 ⟨rfl, hb⟩
      refine ⟨_, rfl, ?_⟩
      replace HO_Ac005 := Aside0.mk (Kd.R_below (pR_ HO_Ac005.out) hb)
      replace HO_Af005 := Aside0.mk (Kd.R_below (pR_ HO_Af005.out) hb)
      replace HOBr := Aside0.mk (Kd.R_below (pR_ HOBr.out) hb)
      replace BKAe := Aside0.mk (blk_below (pB_ BKAe.out) hb)
      replace BKAd := Aside0.mk (blk_below (pB_ BKAd.out) hb)
      replace BKAb := Aside0.mk (blk_below (pB_ BKAb.out) hb)
      replace BKAa := Aside0.mk (blk_below (pB_ BKAa.out) hb)
      replace HB := Aside0.mk (below_step (pH_ HB.out) hb)
      (try clear hb)
      (try clear hb2)
      (try clear hk)
      (try clear hi)
      refine hK.out _ _ ⟨(blk_cell BKAb.out 0).trans rfl, (blk_cell BKAb.out 1).trans rfl, (blk_cell BKAb.out 2).trans rfl, (blk_cell BKAb.out 3).trans rfl, (blk_cell BKAb.out 4).trans rfl, (blk_cell BKAb.out 5).trans rfl, (blk_cell BKAa.out 0).trans rfl, (blk_cell BKAa.out 1).trans rfl, (blk_cell BKAa.out 2).trans rfl, (blk_cell BKAa.out 3).trans rfl, (blk_cell BKAa.out 4).trans rfl, (blk_cell BKAa.out 5).trans rfl⟩ (fun hHeld => ?_)
      clear hK K
      refine nq_ 119 ?_
      refine oq_ 5 122 HT_ (fun K hK => ?_)
      refine gs_ Try.func23 #[.agg #[.int .i64 tAg, .int .i64 tAj, .int .i64 tAk, .int .i64 tAm, .int .i64 tAn, .slice Ao32 tAh.length co32], .agg #[.int .i64 tAc, .int .i64 (rd yAx tAz), .int .i64 tAr, .int .i64 tAq, .int .i64 tAs, .slice Ao40 tAi.length co40]] ?_
      with_reducible refine (plaitingref5_Check.calls kj23 tAg tAj tAk tAm tAn _ _ tAh tAc (rd yAx tAz) tAr tAq tAs _ _ tAi tBw _ ?side1 ?side2 ?side3 ?side4 A72.out).mono ?_
      (case side1 => exact cC_ (Kd.R_reads' HO_Ac005.out).2.2)
      (case side2 => exact (Kd.R_reads' HO_Ac005.out).2.1)
      (case side3 => exact cC_ (Kd.R_reads' HO_Af005.out).2.2)
      (case side4 => exact (Kd.R_reads' HO_Af005.out).2.1)
      rintro e w83 ⟨rfl, hb⟩
      refine ⟨_, rfl, ?_⟩
      replace HO_Ac005 := Aside0.mk (Kd.R_below (pR_ HO_Ac005.out) hb)
      replace HO_Af005 := Aside0.mk (Kd.R_below (pR_ HO_Af005.out) hb)
      replace HOBr := Aside0.mk (Kd.R_below (pR_ HOBr.out) hb)
      replace BKAe := Aside0.mk (blk_below (pB_ BKAe.out) hb)
      replace BKAd := Aside0.mk (blk_below (pB_ BKAd.out) hb)
      replace BKAb := Aside0.mk (blk_below (pB_ BKAb.out) hb)
      replace BKAa := Aside0.mk (blk_below (pB_ BKAa.out) hb)
      replace HB := Aside0.mk (below_step (pH_ HB.out) hb)
      (try clear hb)
      (try clear hb2)
      (try clear hk)
      (try clear hi)
      refine hK.out _ _ ⟨(blk_cell BKAb.out 0).trans rfl, (blk_cell BKAb.out 1).trans rfl, (blk_cell BKAb.out 2).trans rfl, (blk_cell BKAb.out 3).trans rfl, (blk_cell BKAb.out 4).trans rfl, (blk_cell BKAb.out 5).trans rfl, (blk_cell BKAa.out 0).trans rfl, (blk_cell BKAa.out 1).trans rfl, (blk_cell BKAa.out 2).trans rfl, (blk_cell BKAa.out 3).trans rfl, (blk_cell BKAa.out 4).trans rfl, (blk_cell BKAa.out 5).trans rfl⟩ (fun hHeld => ?_)
      clear hK K
      refine nq_ 122 ?_
      refine pq_ 6 123 HT_ ?_
      refine pq_ 7 10 HT_ ?_
      refine done_ (done_of HT_.out (by kernel_rfl)) ?_
      try go_wp2
      go_ret
      exact ⟨by first | rfl | (simp [errW_none, errW_some] <;> rfl) | (simp [*, errW_none, errW_some] <;> rfl), by repeat (first | (with_reducible first | exact HB.out | apply below_alloc | apply pw_below_drewN | apply below_drew1 | refine below_set ?_ GEAe.out | refine below_set ?_ GEAd.out | refine below_set ?_ GEAb.out | refine below_set ?_ GEAa.out) | exact HB.out)⟩
     rw [if_neg c67] at H
     have c67b0 : (tAt == 1) = false := beq_eq_false_iff_ne.mpr c67
     have c67b1 : (tAt != 1) = true := bne_iff_ne.mpr c67
     by_cases c84 : tAt = 2
     ·
      rw [if_pos c84] at H
      have c84b0 : (tAt == 2) = true := beq_iff_eq.mpr c84
      have c84b1 : (tAt != 2) = false := bne_eq_false_iff_eq.mpr c84
      clear c84
      replace H := Option.bind_eq_some_iff.mp H
      obtain ⟨tBm, A850, H⟩ := H
      replace H : ((some (([(-1), tBm, a4, tAg] : List Int) : List Int)).bind fun yAu => ((plaitinglaw5_within.f a4 4).bind fun tAv => (if 0 ≤ tAv then (if tAv < (yAu.length : Int) then ((frame_Check.f tAg tAj tAk tAm tAn tAh tAc tAp (rd yAu tAv) tAq tAs tAi).bind fun tBs => ((plaitingref5_Check.f kj23 tAg tAj tAk tAm tAn tAh tAc tAp (rd yAu tAv) tAq tAs tAi).bind fun tBn => (some (tBs == tBn)))) else (none)) else (none)))) = some r := H
      have A85 := Aside0.mk A850
      clear A850
      obtain ⟨yAu, hyAu⟩ : ∃ y_ : List Int, y_ = (([(-1), tBm, a4, tAg] : List Int)) := ⟨_, rfl⟩
      replace H : ((plaitinglaw5_within.f a4 4).bind fun tAv => (if 0 ≤ tAv then (if tAv < (yAu.length : Int) then ((frame_Check.f tAg tAj tAk tAm tAn tAh tAc tAp (rd yAu tAv) tAq tAs tAi).bind fun tBs => ((plaitingref5_Check.f kj23 tAg tAj tAk tAm tAn tAh tAc tAp (rd yAu tAv) tAq tAs tAi).bind fun tBn => (some (tBs == tBn)))) else (none)) else (none))) = some r := by first | (rw [hyAu]; with_reducible exact H) | (have H2_ := (Option.bind_some _ _).symm.trans H; rw [hyAu]; with_reducible exact H2_) | (have H2_ := (Option.bind_some _ _).symm.trans H; with_reducible exact H2_) | with_reducible exact H | (rw [hyAu]; exact H) | exact H
      have NyAu := Aside0.mk hyAu
      clear hyAu
      replace H := Option.bind_eq_some_iff.mp H
      obtain ⟨tAv, A860, H⟩ := H
      replace H : (if 0 ≤ tAv then (if tAv < (yAu.length : Int) then ((frame_Check.f tAg tAj tAk tAm tAn tAh tAc tAp (rd yAu tAv) tAq tAs tAi).bind fun tBs => ((plaitingref5_Check.f kj23 tAg tAj tAk tAm tAn tAh tAc tAp (rd yAu tAv) tAq tAs tAi).bind fun tBn => (some (tBs == tBn)))) else (none)) else (none)) = some r := H
      have A86 := Aside0.mk A860
      clear A860
      by_cases c87 : 0 ≤ tAv
      rotate_left
      ·
       rw [if_neg c87] at H
       exact absurd H (by simp)
      rw [if_pos c87] at H
      have c87b0 : decide (0 ≤ tAv) = true := decide_eq_true c87
      clear c87
      by_cases c88 : tAv < (yAu.length : Int)
      rotate_left
      ·
       rw [if_neg c88] at H
       exact absurd H (by simp)
      rw [if_pos c88] at H
      have c88b0 : decide (tAv < (yAu.length : Int)) = true := decide_eq_true c88
      clear c88
      replace H := Option.bind_eq_some_iff.mp H
      obtain ⟨tBs, A890, H⟩ := H
      replace H : ((plaitingref5_Check.f kj23 tAg tAj tAk tAm tAn tAh tAc tAp (rd yAu tAv) tAq tAs tAi).bind fun tBn => (some (tBs == tBn))) = some r := H
      have A89 := Aside0.mk A890
      clear A890
      replace H := Option.bind_eq_some_iff.mp H
      obtain ⟨tBn, A900, H⟩ := H
      replace H : (some (tBs == tBn)) = some r := H
      have A90 := Aside0.mk A900
      clear A900
      obtain rfl := Option.some.inj H
      try go_wp2_with (first | ((with_reducible refine gate_callee (f := 24) rfl ?_); refine gL_ 44 Try.func24 #[.int .i64 a3, .int .i64 8] ?_; (with_reducible refine (plaitinglaw5_within.calls a3 8 tAt _ A55.out).mono ?_); rintro e w' ⟨rfl, ⟨nd, rfl⟩⟩; refine ⟨_, rfl, ?_⟩; (try (rw [drewN_self wc]; generalize hq_ : World.drewN wc _ = wc; have n0_ : Aside0 (Kd.R (Kd.int .i64) 3 wc w.heap.size (fun _ => True) (.slice Ao32 tAh.length co32) tAh) := ⟨by rw [← hq_]; exact (pR_ HO_Ac005.out)⟩; have n1_ : Aside0 (Kd.R k26 26 wc w.heap.size (fun _ => True) (.slice Ao40 tAi.length co40) tAi) := ⟨by rw [← hq_]; exact (pR_ HO_Af005.out)⟩; have n2_ : Aside0 (wc.heap[gbAe]? = some (.cells #[.int .i64 a0_0, .int .i64 a0_1, .int .i64 a0_2, .int .i64 a0_3, .int .i64 a0_4, .slice A0_5 l0_5.length c0_5] 24 (0, 0))) := ⟨by rw [← hq_]; exact (pB_ BKAe.out)⟩; have n3_ : Aside0 (wc.heap[gbAd]? = some (.cells #[.int .i64 a1_0, .int .i64 a1_1, .int .i64 a1_2, .int .i64 a1_3, .int .i64 a1_4, .slice A1_5 l1_5.length c1_5] 29 (0, 0))) := ⟨by rw [← hq_]; exact (pB_ BKAd.out)⟩; have n4_ : Aside0 (wc.heap[gbAb]? = some (.cells #[.int .i64 tAg, .int .i64 tAj, .int .i64 tAk, .int .i64 tAm, .int .i64 tAn, .slice Ao32 tAh.length co32] 24 (0, 0))) := ⟨by rw [← hq_]; exact (pB_ BKAb.out)⟩; have n5_ : Aside0 (wc.heap[gbAa]? = some (.cells #[.int .i64 tAc, .int .i64 tAp, .int .i64 tAr, .int .i64 tAq, .int .i64 tAs, .slice Ao40 tAi.length co40] 29 (0, 0))) := ⟨by rw [← hq_]; exact (pB_ BKAa.out)⟩; have n6_ : Aside0 (Below w.heap.size w wc) := ⟨by rw [← hq_]; exact (pH_ HB.out)⟩; clear HO_Ac005 HO_Af005 BKAe BKAd BKAb BKAa HB hq_; have HO_Ac005 := n0_; have HO_Af005 := n1_; have BKAe := n2_; have BKAd := n3_; have BKAb := n4_; have BKAa := n5_; have HB := n6_; clear n0_ n1_ n2_ n3_ n4_ n5_ n6_))))
      have piCf : (0 ≤ (tAv : Int)) = True := eq_true (of_decide_eq_true (by first | (with_reducible assumption) | assumption))
      have qiCf : (tAv < (yAu.length : Int)) = True := eq_true (of_decide_eq_true (by first | (with_reducible assumption) | assumption))
      replace HO_Ac005 := Aside0.mk (Kd.R_drew HO_Ac005.out)
      replace HO_Af005 := Aside0.mk (Kd.R_drew HO_Af005.out)
      replace BKAe := Aside0.mk (blk_drew BKAe.out)
      replace BKAd := Aside0.mk (blk_drew BKAd.out)
      replace BKAb := Aside0.mk (blk_drew BKAb.out)
      replace BKAa := Aside0.mk (blk_drew BKAa.out)
      replace HB := Aside0.mk (below_drew1 HB.out)
      refine start_ (n := 12) (S := fun w' => w'.cell? ⟨gbAb, 0, none⟩ = some (.int .i64 tAg) ∧ w'.cell? ⟨gbAb, 1, none⟩ = some (.int .i64 tAj) ∧ w'.cell? ⟨gbAb, 2, none⟩ = some (.int .i64 tAk) ∧ w'.cell? ⟨gbAb, 3, none⟩ = some (.int .i64 tAm) ∧ w'.cell? ⟨gbAb, 4, none⟩ = some (.int .i64 tAn) ∧ w'.cell? ⟨gbAb, 5, none⟩ = some (.slice Ao32 tAh.length co32)) (ds := []) #[false, false, false, false, false, false, false, false, false, false, false, false] (by kernel_rfl) rfl rfl ⟨(blk_cell BKAb.out 0).trans rfl, (blk_cell BKAb.out 1).trans rfl, (blk_cell BKAb.out 2).trans rfl, (blk_cell BKAb.out 3).trans rfl, (blk_cell BKAb.out 4).trans rfl, (blk_cell BKAb.out 5).trans rfl⟩ (fun hHeld => ?_); refine with_tabW plaitinglaw5_FrameChecks.tab15 plaitinglaw5_FrameChecks.bits15 (fun HT_ HW_ => ?_)
      generalize wc.drew = w91 at HO_Ac005 HO_Af005 BKAe BKAd BKAb BKAa HB hHeld ⊢
      refine pq_ 2 62 HT_ ?_
      refine pq_ 3 63 HT_ ?_
      refine pq_ 6 66 HT_ ?_
      refine tq_ 0 60 HT_ HW_ hHeld ?_
      refine tq_ 4 64 HT_ HW_ hHeld ?_
      refine oq_ 1 61 HT_ (fun K hK => ?_)
      refine gs_ Try.func25 #[.agg #[.int .i64 tAg, .int .i64 tAj, .int .i64 tAk, .int .i64 tAm, .int .i64 tAn, .slice Ao32 tAh.length co32]] ?_
      with_reducible refine (plaitingref3_Slots.calls tAg tAj tAk tAm tAn _ _ tAh tBm _ ?side1 ?side2 A85.out).mono ?_
      (case side1 => exact cC_ (Kd.R_reads' HO_Ac005.out).2.2)
      (case side2 => exact (Kd.R_reads' HO_Ac005.out).2.1)
      rintro e w92 ⟨rfl, hb⟩
      refine ⟨_, rfl, ?_⟩
      replace HO_Ac005 := Aside0.mk (Kd.R_below (pR_ HO_Ac005.out) hb)
      replace HO_Af005 := Aside0.mk (Kd.R_below (pR_ HO_Af005.out) hb)
      replace BKAe := Aside0.mk (blk_below (pB_ BKAe.out) hb)
      replace BKAd := Aside0.mk (blk_below (pB_ BKAd.out) hb)
      replace BKAb := Aside0.mk (blk_below (pB_ BKAb.out) hb)
      replace BKAa := Aside0.mk (blk_below (pB_ BKAa.out) hb)
      replace HB := Aside0.mk (below_step (pH_ HB.out) hb)
      (try clear hb)
      (try clear hb2)
      (try clear hk)
      (try clear hi)
      refine hK.out _ _ ⟨(blk_cell BKAb.out 0).trans rfl, (blk_cell BKAb.out 1).trans rfl, (blk_cell BKAb.out 2).trans rfl, (blk_cell BKAb.out 3).trans rfl, (blk_cell BKAb.out 4).trans rfl, (blk_cell BKAb.out 5).trans rfl⟩ (fun hHeld => ?_)
      clear hK K
      refine nq_ 61 ?_
      refine join_ (σ := Value × Addr) 4 #[true, true, true, true, true, true, true, true, false, false, false, false] (fun s_ => [(65, s_.1), (67, .int .i64 tAv)]) (fun s_ w' => (w'.cell? ⟨gbAb, 0, none⟩ = some (.int .i64 tAg) ∧ w'.cell? ⟨gbAb, 1, none⟩ = some (.int .i64 tAj) ∧ w'.cell? ⟨gbAb, 2, none⟩ = some (.int .i64 tAk) ∧ w'.cell? ⟨gbAb, 3, none⟩ = some (.int .i64 tAm) ∧ w'.cell? ⟨gbAb, 4, none⟩ = some (.int .i64 tAn) ∧ w'.cell? ⟨gbAb, 5, none⟩ = some (.slice Ao32 tAh.length co32)) ∧ (Kd.R (Kd.int .i64) 3 w' w.heap.size (fun k_ => some k_ ≠ (.slice Ao32 tAh.length co32 : Value).ownBlock) s_.1 yAu) ∧ (Kd.R (Kd.int .i64) 3 w' w.heap.size (fun k_ => some k_ ≠ (s_.1 : Value).ownBlock) (.slice Ao32 tAh.length co32) tAh) ∧ (Kd.R k26 26 w' w.heap.size (fun _ => True) (.slice Ao40 tAi.length co40) tAi) ∧ (∃ c_, (s_.1 : Value) = .slice (some s_.2) yAu.length c_) ∧ (w'.heap[gbAe]? = some (.cells #[.int .i64 a0_0, .int .i64 a0_1, .int .i64 a0_2, .int .i64 a0_3, .int .i64 a0_4, .slice A0_5 l0_5.length c0_5] 24 (0, 0))) ∧ (w'.heap[gbAd]? = some (.cells #[.int .i64 a1_0, .int .i64 a1_1, .int .i64 a1_2, .int .i64 a1_3, .int .i64 a1_4, .slice A1_5 l1_5.length c1_5] 29 (0, 0))) ∧ (w'.heap[gbAb]? = some (.cells #[.int .i64 tAg, .int .i64 tAj, .int .i64 tAk, .int .i64 tAm, .int .i64 tAn, .slice Ao32 tAh.length co32] 24 (0, 0))) ∧ (w'.heap[gbAa]? = some (.cells #[.int .i64 tAc, .int .i64 tAp, .int .i64 tAr, .int .i64 tAq, .int .i64 tAs, .slice Ao40 tAi.length co40] 29 (0, 0))) ∧ (Below w.heap.size w w')) ?_ ?_
      rotate_left
      ·
       intro hCont
       refine two_ (i := 5) (j := 7) (Ni := some 65) (Nj := some 67) #[true, true, true, true, true, true, true, false, false, false, false, false] #[true, true, true, true, true, false, true, true, false, false, false, false] rfl rfl rfl rfl (two_of HT_.out (by kernel_rfl)) (by decide) (by decide) (fun K hK => ?_) (fun K hK => ?_)
       ·
        skip
        refine Kd.R_lit_step (Kd.int .i64) _ 3 ?hg (N := 65) ?hd (xs := ([(-1), tBm, a4, tAg] : List Int)) (inner := [.int .i64 (-1), .int .i64 tBm, .int .i64 a4, .int .i64 tAg]) (ok := fun _ => True) (okp := fun _ => True) ?hr ?hp (fun _ hk => hk) trivial (Below.refl _ _) (Nat.le_refl _) (by simp) ?_; (case hd => rfl); (case hg => rfl); (case hr => first | (go_simp; done) | (go_simp; rfl)); (case hp => exact (Reps.one (show Kd.M (Kd.int .i64) _ _ _ (-1) [.int .i64 (-1)] from rfl) (Reps.one (show Kd.M (Kd.int .i64) _ _ _ tBm [.int .i64 tBm] from rfl) (Reps.one (show Kd.M (Kd.int .i64) _ _ _ a4 [.int .i64 a4] from rfl) (Reps.one (show Kd.M (Kd.int .i64) _ _ _ tAg [.int .i64 tAg] from rfl) (Reps.none _ _))))))
        intro vCj w93 ho94 hb hg_ hnew_
        clear hg_ hnew_
        (first | rw [← NyAu.out] at ho94 | (simp only [Int.reduceToNat] at ho94; rw [← NyAu.out] at ho94))
        have HOBh := Aside0.mk (Kd.R_lower (Kd.R_new' ho94 (Kd.R_lt (pR_ HO_Ac005.out))) (below_size (pH_ HB.out)))
        replace HO_Ac005 := Aside0.mk (Kd.R_elder' (pR_ HO_Ac005.out) (Kd.R_base ho94) hb)
        replace HO_Af005 := Aside0.mk (Kd.R_below (pR_ HO_Af005.out) hb)
        replace BKAe := Aside0.mk (blk_below (pB_ BKAe.out) hb)
        replace BKAd := Aside0.mk (blk_below (pB_ BKAd.out) hb)
        replace BKAb := Aside0.mk (blk_below (pB_ BKAb.out) hb)
        replace BKAa := Aside0.mk (blk_below (pB_ BKAa.out) hb)
        replace HB := Aside0.mk (below_step (pH_ HB.out) hb)
        clear hb ho94
        obtain ⟨Ao95, co95, eo95⟩ := Kd.R_slice HOBh.out
        subst eo95
        obtain ⟨ado95, fo95, _⟩ := Kd.at_int (Kd.R_reads' HOBh.out).2.2 0 (by decide) (by rw [NyAu.out]; simp)
        cases fo95
        refine hK.out _ _ ⟨(blk_cell BKAb.out 0).trans rfl, (blk_cell BKAb.out 1).trans rfl, (blk_cell BKAb.out 2).trans rfl, (blk_cell BKAb.out 3).trans rfl, (blk_cell BKAb.out 4).trans rfl, (blk_cell BKAb.out 5).trans rfl⟩ (fun hHeld => ?_)
        clear hK K
        refine nq_ 65 ?_
        refine oq_ 7 67 HT_ (fun K hK => ?_)
        refine gs_ Try.func24 #[.int .i64 a4, .int .i64 4] ?_
        with_reducible refine (plaitinglaw5_within.calls a4 4 tAv _ A86.out).mono ?_
        rintro e w' ⟨rfl, ⟨nd, rfl⟩⟩
        refine ⟨_, rfl, ?_⟩
        refine hK.out _ _ ⟨(blk_cell BKAb.out 0).trans rfl, (blk_cell BKAb.out 1).trans rfl, (blk_cell BKAb.out 2).trans rfl, (blk_cell BKAb.out 3).trans rfl, (blk_cell BKAb.out 4).trans rfl, (blk_cell BKAb.out 5).trans rfl⟩ (fun hHeld => ?_)
        clear hK K
        refine nq_ 67 ?_
        exact norm_ (by simp only [putAll, Act.put, List.setIfInBounds_toArray, List.set_cons_zero, List.set_cons_succ]) (hCont (.slice (some ado95) yAu.length co95, ado95) _ ⟨hHeld, (by (with_reducible repeat (first | apply Kd.R_alloc | apply Kd.R_drewN | apply Kd.R_drew)); exact Kd.R_mono HOBh.out (fun _ hk => hk.2)), (by (with_reducible repeat (first | apply Kd.R_alloc | apply Kd.R_drewN | apply Kd.R_drew)); exact Kd.R_mono HO_Ac005.out (fun _ hk => hk.2)), (pR_ HO_Af005.out), ⟨_, rfl⟩, (pB_ BKAe.out), (pB_ BKAd.out), (pB_ BKAb.out), (pB_ BKAa.out), (pH_ HB.out)⟩)
       skip
       refine gs_ Try.func24 #[.int .i64 a4, .int .i64 4] ?_
       with_reducible refine (plaitinglaw5_within.calls a4 4 tAv _ A86.out).mono ?_
       rintro e w' ⟨rfl, ⟨nd, rfl⟩⟩
       refine ⟨_, rfl, ?_⟩
       refine hK.out _ _ ⟨(blk_cell BKAb.out 0).trans rfl, (blk_cell BKAb.out 1).trans rfl, (blk_cell BKAb.out 2).trans rfl, (blk_cell BKAb.out 3).trans rfl, (blk_cell BKAb.out 4).trans rfl, (blk_cell BKAb.out 5).trans rfl⟩ (fun hHeld => ?_)
       clear hK K
       refine nq_ 67 ?_
       refine oq_ 5 65 HT_ (fun K hK => ?_)
       refine Kd.R_lit_step (Kd.int .i64) _ 3 ?hg (N := 65) ?hd (xs := ([(-1), tBm, a4, tAg] : List Int)) (inner := [.int .i64 (-1), .int .i64 tBm, .int .i64 a4, .int .i64 tAg]) (ok := fun _ => True) (okp := fun _ => True) ?hr ?hp (fun _ hk => hk) trivial (Below.refl _ _) (Nat.le_refl _) (by simp) ?_; (case hd => rfl); (case hg => rfl); (case hr => first | (go_simp; done) | (go_simp; rfl)); (case hp => exact (Reps.one (show Kd.M (Kd.int .i64) _ _ _ (-1) [.int .i64 (-1)] from rfl) (Reps.one (show Kd.M (Kd.int .i64) _ _ _ tBm [.int .i64 tBm] from rfl) (Reps.one (show Kd.M (Kd.int .i64) _ _ _ a4 [.int .i64 a4] from rfl) (Reps.one (show Kd.M (Kd.int .i64) _ _ _ tAg [.int .i64 tAg] from rfl) (Reps.none _ _))))))
       intro vCj w93 ho94 hb hg_ hnew_
       clear hg_ hnew_
       (first | rw [← NyAu.out] at ho94 | (simp only [Int.reduceToNat] at ho94; rw [← NyAu.out] at ho94))
       have HOBh := Aside0.mk (Kd.R_lower (Kd.R_new' ho94 (Kd.R_lt (pR_ HO_Ac005.out))) (below_size (pH_ HB.out)))
       replace HO_Ac005 := Aside0.mk (Kd.R_elder' (pR_ HO_Ac005.out) (Kd.R_base ho94) hb)
       replace HO_Af005 := Aside0.mk (Kd.R_below (pR_ HO_Af005.out) hb)
       replace BKAe := Aside0.mk (blk_below (pB_ BKAe.out) hb)
       replace BKAd := Aside0.mk (blk_below (pB_ BKAd.out) hb)
       replace BKAb := Aside0.mk (blk_below (pB_ BKAb.out) hb)
       replace BKAa := Aside0.mk (blk_below (pB_ BKAa.out) hb)
       replace HB := Aside0.mk (below_step (pH_ HB.out) hb)
       clear hb ho94
       obtain ⟨Ao95, co95, eo95⟩ := Kd.R_slice HOBh.out
       subst eo95
       obtain ⟨ado95, fo95, _⟩ := Kd.at_int (Kd.R_reads' HOBh.out).2.2 0 (by decide) (by rw [NyAu.out]; simp)
       cases fo95
       refine hK.out _ _ ⟨(blk_cell BKAb.out 0).trans rfl, (blk_cell BKAb.out 1).trans rfl, (blk_cell BKAb.out 2).trans rfl, (blk_cell BKAb.out 3).trans rfl, (blk_cell BKAb.out 4).trans rfl, (blk_cell BKAb.out 5).trans rfl⟩ (fun hHeld => ?_)
       clear hK K
       refine nq_ 65 ?_
       exact norm_ (by simp only [putAll, Act.put, List.setIfInBounds_toArray, List.set_cons_zero, List.set_cons_succ]) (hCont (.slice (some ado95) yAu.length co95, ado95) _ ⟨hHeld, (by (with_reducible repeat (first | apply Kd.R_alloc | apply Kd.R_drewN | apply Kd.R_drew)); exact Kd.R_mono HOBh.out (fun _ hk => hk.2)), (by (with_reducible repeat (first | apply Kd.R_alloc | apply Kd.R_drewN | apply Kd.R_drew)); exact Kd.R_mono HO_Ac005.out (fun _ hk => hk.2)), (pR_ HO_Af005.out), ⟨_, rfl⟩, (pB_ BKAe.out), (pB_ BKAd.out), (pB_ BKAb.out), (pB_ BKAa.out), (pH_ HB.out)⟩)
      rintro ⟨vCj, adz_vCj⟩ w96 ⟨hS_, h0_, h1_, h2_, h3_, h4_, h5_, h6_, h7_, h8_⟩
      have n0_ : Aside0 (Kd.R (Kd.int .i64) 3 w96 w.heap.size (fun k_ => some k_ ≠ (.slice Ao32 tAh.length co32 : Value).ownBlock) vCj yAu) := ⟨h0_⟩
      have n1_ : Aside0 (Kd.R (Kd.int .i64) 3 w96 w.heap.size (fun k_ => some k_ ≠ (vCj : Value).ownBlock) (.slice Ao32 tAh.length co32) tAh) := ⟨h1_⟩
      have n2_ : Aside0 (Kd.R k26 26 w96 w.heap.size (fun _ => True) (.slice Ao40 tAi.length co40) tAi) := ⟨h2_⟩
      have n3_ : Aside0 (∃ c_, (vCj : Value) = .slice (some adz_vCj) yAu.length c_) := ⟨h3_⟩
      have n4_ : Aside0 (w96.heap[gbAe]? = some (.cells #[.int .i64 a0_0, .int .i64 a0_1, .int .i64 a0_2, .int .i64 a0_3, .int .i64 a0_4, .slice A0_5 l0_5.length c0_5] 24 (0, 0))) := ⟨h4_⟩
      have n5_ : Aside0 (w96.heap[gbAd]? = some (.cells #[.int .i64 a1_0, .int .i64 a1_1, .int .i64 a1_2, .int .i64 a1_3, .int .i64 a1_4, .slice A1_5 l1_5.length c1_5] 29 (0, 0))) := ⟨h5_⟩
      have n6_ : Aside0 (w96.heap[gbAb]? = some (.cells #[.int .i64 tAg, .int .i64 tAj, .int .i64 tAk, .int .i64 tAm, .int .i64 tAn, .slice Ao32 tAh.length co32] 24 (0, 0))) := ⟨h6_⟩
      have n7_ : Aside0 (w96.heap[gbAa]? = some (.cells #[.int .i64 tAc, .int .i64 tAp, .int .i64 tAr, .int .i64 tAq, .int .i64 tAs, .slice Ao40 tAi.length co40] 29 (0, 0))) := ⟨h7_⟩
      have n8_ : Aside0 (Below w.heap.size w w96) := ⟨h8_⟩
      clear HO_Ac005
      clear HO_Af005
      clear BKAe
      clear BKAd
      clear BKAb
      clear BKAa
      clear HB
      clear h0_ h1_ h2_ h3_ h4_ h5_ h6_ h7_ h8_
      have HOBh := n0_
      have HO_Ac005 := n1_
      have HO_Af005 := n2_
      have HA_HOBh := n3_
      have BKAe := n4_
      have BKAd := n5_
      have BKAb := n6_
      have BKAa := n7_
      have HB := n8_
      clear n0_ n1_ n2_ n3_ n4_ n5_ n6_ n7_ n8_
      have hHeld : w96.cell? ⟨gbAb, 0, none⟩ = some (.int .i64 tAg) ∧ w96.cell? ⟨gbAb, 1, none⟩ = some (.int .i64 tAj) ∧ w96.cell? ⟨gbAb, 2, none⟩ = some (.int .i64 tAk) ∧ w96.cell? ⟨gbAb, 3, none⟩ = some (.int .i64 tAm) ∧ w96.cell? ⟨gbAb, 4, none⟩ = some (.int .i64 tAn) ∧ w96.cell? ⟨gbAb, 5, none⟩ = some (.slice Ao32 tAh.length co32) := hS_
      obtain ⟨co97, eo97⟩ := HA_HOBh.out
      clear HA_HOBh
      subst eo97
      refine norm_ (a' := ?_) ?_ ?_
      rotate_left
      ·
       simp only [putAll, Act.put, List.setIfInBounds_toArray, List.set_cons_zero, List.set_cons_succ]
       rfl
      refine pq_ 8 68 HT_ ?_
      refine oq_ 9 69 HT_ (fun K hK => ?_)
      (have pCf : 0 ≤ (tAv : Int) := of_decide_eq_true (by first | (with_reducible assumption) | assumption); have qCf : tAv < (yAu.length : Int) := of_decide_eq_true (by first | (with_reducible assumption) | assumption); obtain ⟨adCf, eCf, hxCf_0⟩ := Kd.at_int (Kd.R_reads' HOBh.out).2.2 tAv pCf qCf; obtain rfl : adz_vCj = adCf := (by injection eCf))
      refine value_ (w1 := ?_) (v := ?_) (by rfl) rfl ?_ ?_
      rotate_left 2
      ·
       go_simp
       constructor
       · rfl
       rfl
      clear hxCf_0
      refine hK.out _ _ ⟨(blk_cell BKAb.out 0).trans rfl, (blk_cell BKAb.out 1).trans rfl, (blk_cell BKAb.out 2).trans rfl, (blk_cell BKAb.out 3).trans rfl, (blk_cell BKAb.out 4).trans rfl, (blk_cell BKAb.out 5).trans rfl⟩ (fun hHeld => ?_)
      clear hK K
      refine nq_ 69 ?_
      refine pq_ 10 70 HT_ ?_
      refine one_ (i := 11) (N := none) #[true, true, true, true, true, true, true, true, true, true, true, true] rfl rfl (one_of HT_.out (by kernel_rfl)) (by decide) (fun K hK => ?_)
      have hs98 : w96.cell? ⟨gbAa, 2, none⟩ = some (.int .i64 tAr) := (blk_cell BKAa.out 2).trans rfl
      have hfs98 := blk_frozen BKAa.out 2
      have hns98_0 := NBAe_Aa.out
      have hns98_1 := NBAd_Aa.out
      have hns98_2 := NBAb_Aa.out
      have hms98_0 := NBAa_Ae.out
      have hms98_1 := NBAa_Ad.out
      have hms98_2 := NBAa_Ab.out
      refine skip_ (w1 := ?_) (by rfl) rfl ?_ ?_
      rotate_left
      ·
       go_simp
       rfl
      refine hK.out _ _ ⟨((cell_far (p := ⟨gbAa, _, none⟩) NBAb_Aa.out _).trans (hHeld.1)), ((cell_far (p := ⟨gbAa, _, none⟩) NBAb_Aa.out _).trans (hHeld.2.1)), ((cell_far (p := ⟨gbAa, _, none⟩) NBAb_Aa.out _).trans (hHeld.2.2.1)), ((cell_far (p := ⟨gbAa, _, none⟩) NBAb_Aa.out _).trans (hHeld.2.2.2.1)), ((cell_far (p := ⟨gbAa, _, none⟩) NBAb_Aa.out _).trans (hHeld.2.2.2.2.1)), ((cell_far (p := ⟨gbAa, _, none⟩) NBAb_Aa.out _).trans (hHeld.2.2.2.2.2))⟩ (fun hHeld => ?_)
      clear hK K
      refine done_ (done_of HT_.out (by kernel_rfl)) ?_
      try go_wp2
      (try (rw [drewN_self w96]; generalize hq_ : World.drewN w96 _ = w96; have n0_ := Aside0.mk (Kd.R_at hq_ HO_Ac005.out); have n1_ := Aside0.mk (Kd.R_at hq_ HO_Af005.out); have n2_ := Aside0.mk (Kd.R_at hq_ HOBh.out); have n3_ := Aside0.mk (blk_at hq_ BKAe.out); have n4_ := Aside0.mk (blk_at hq_ BKAd.out); have n5_ := Aside0.mk (blk_at hq_ BKAb.out); have n6_ := Aside0.mk (blk_at hq_ BKAa.out); have n7_ := Aside0.mk (below_at hq_ HB.out); clear hq_ HO_Ac005 HO_Af005 HOBh BKAe BKAd BKAb BKAa HB; have HO_Ac005 := n0_; have HO_Af005 := n1_; have HOBh := n2_; have BKAe := n3_; have BKAd := n4_; have BKAb := n5_; have BKAa := n6_; have HB := n7_; clear n0_ n1_ n2_ n3_ n4_ n5_ n6_ n7_))
      have n0_ : Aside0 (Kd.R (Kd.int .i64) 3 (w96.setCell ⟨gbAa, 2, none⟩ (.int .i64 (rd yAu tAv))) w.heap.size (fun k_ => some k_ ≠ (.slice (some adz_vCj) yAu.length co97 : Value).ownBlock) (.slice Ao32 tAh.length co32) tAh) := ⟨by (with_reducible repeat (first | apply Kd.R_alloc | apply Kd.R_drewN | apply Kd.R_drew)); exact Kd.R_mono (Kd.R_far (p := ⟨gbAa, 2, none⟩) (Kd.R_types HO_Ac005.out BKAa.out (by decide)) (fun _ hk => hk.2) (.int .i64 (rd yAu tAv))) (fun _ hk => hk.1)⟩
      have n1_ : Aside0 (Kd.R k26 26 (w96.setCell ⟨gbAa, 2, none⟩ (.int .i64 (rd yAu tAv))) w.heap.size (fun _ => True) (.slice Ao40 tAi.length co40) tAi) := ⟨by (with_reducible repeat (first | apply Kd.R_alloc | apply Kd.R_drewN | apply Kd.R_drew)); exact Kd.R_mono (Kd.R_far (p := ⟨gbAa, 2, none⟩) (Kd.R_types HO_Af005.out BKAa.out (by decide)) (fun _ hk => hk.2) (.int .i64 (rd yAu tAv))) (fun _ hk => trivial)⟩
      have n2_ : Aside0 (Kd.R (Kd.int .i64) 3 (w96.setCell ⟨gbAa, 2, none⟩ (.int .i64 (rd yAu tAv))) w.heap.size (fun k_ => some k_ ≠ (.slice Ao32 tAh.length co32 : Value).ownBlock) (.slice (some adz_vCj) yAu.length co97) yAu) := ⟨by (with_reducible repeat (first | apply Kd.R_alloc | apply Kd.R_drewN | apply Kd.R_drew)); exact Kd.R_mono (Kd.R_far (p := ⟨gbAa, 2, none⟩) (Kd.R_types HOBh.out BKAa.out (by decide)) (fun _ hk => hk.2) (.int .i64 (rd yAu tAv))) (fun _ hk => hk.1)⟩
      have n3_ : Aside0 ((w96.setCell ⟨gbAa, 2, none⟩ (.int .i64 (rd yAu tAv))).heap[gbAe]? = some (.cells #[.int .i64 a0_0, .int .i64 a0_1, .int .i64 a0_2, .int .i64 a0_3, .int .i64 a0_4, .slice A0_5 l0_5.length c0_5] 24 (0, 0))) := ⟨by (with_reducible repeat (first | refine blk_drewN ?_ _ | refine blk_drew ?_ | refine blk_alloc ?_ _)); refine blk_far ?_ NBAe_Aa.out _; (with_reducible repeat (first | refine blk_drewN ?_ _ | refine blk_drew ?_ | refine blk_alloc ?_ _)); exact BKAe.out⟩
      have n4_ : Aside0 ((w96.setCell ⟨gbAa, 2, none⟩ (.int .i64 (rd yAu tAv))).heap[gbAd]? = some (.cells #[.int .i64 a1_0, .int .i64 a1_1, .int .i64 a1_2, .int .i64 a1_3, .int .i64 a1_4, .slice A1_5 l1_5.length c1_5] 29 (0, 0))) := ⟨by (with_reducible repeat (first | refine blk_drewN ?_ _ | refine blk_drew ?_ | refine blk_alloc ?_ _)); refine blk_far ?_ NBAd_Aa.out _; (with_reducible repeat (first | refine blk_drewN ?_ _ | refine blk_drew ?_ | refine blk_alloc ?_ _)); exact BKAd.out⟩
      have n5_ : Aside0 ((w96.setCell ⟨gbAa, 2, none⟩ (.int .i64 (rd yAu tAv))).heap[gbAb]? = some (.cells #[.int .i64 tAg, .int .i64 tAj, .int .i64 tAk, .int .i64 tAm, .int .i64 tAn, .slice Ao32 tAh.length co32] 24 (0, 0))) := ⟨by (with_reducible repeat (first | refine blk_drewN ?_ _ | refine blk_drew ?_ | refine blk_alloc ?_ _)); refine blk_far ?_ NBAb_Aa.out _; (with_reducible repeat (first | refine blk_drewN ?_ _ | refine blk_drew ?_ | refine blk_alloc ?_ _)); exact BKAb.out⟩
      have n6_ : Aside0 ((w96.setCell ⟨gbAa, 2, none⟩ (.int .i64 (rd yAu tAv))).heap[gbAa]? = some (.cells #[.int .i64 tAc, .int .i64 tAp, .int .i64 (rd yAu tAv), .int .i64 tAq, .int .i64 tAs, .slice Ao40 tAi.length co40] 29 (0, 0))) := ⟨by (with_reducible repeat (first | refine blk_drewN ?_ _ | refine blk_drew ?_ | refine blk_alloc ?_ _)); refine blk_put (cs := #[.int .i64 tAc, .int .i64 tAp, .int .i64 tAr, .int .i64 tAq, .int .i64 tAs, .slice Ao40 tAi.length co40]) ?_ 2 _ rfl; (with_reducible repeat (first | refine blk_drewN ?_ _ | refine blk_drew ?_ | refine blk_alloc ?_ _)); exact BKAa.out⟩
      have n7_ : Aside0 (Below w.heap.size w (w96.setCell ⟨gbAa, 2, none⟩ (.int .i64 (rd yAu tAv)))) := ⟨by repeat (first | (with_reducible first | exact HB.out | apply below_alloc | apply pw_below_drewN | apply below_drew1 | refine below_set ?_ GEAe.out | refine below_set ?_ GEAd.out | refine below_set ?_ GEAb.out | refine below_set ?_ GEAa.out) | exact HB.out)⟩
      (try clear HO_Ac005)
      (try clear HO_Af005)
      (try clear HOBh)
      (try clear BKAe)
      (try clear BKAd)
      (try clear BKAb)
      (try clear BKAa)
      (try clear HB)
      generalize (w96.setCell ⟨gbAa, 2, none⟩ (.int .i64 (rd yAu tAv))) = w99 at n0_ n1_ n2_ n3_ n4_ n5_ n6_ n7_ ⊢
      have HO_Ac005 := n0_
      have HO_Af005 := n1_
      have HOBh := n2_
      have BKAe := n3_
      have BKAd := n4_
      have BKAb := n5_
      have BKAa := n6_
      have HB := n7_
      clear n0_ n1_ n2_ n3_ n4_ n5_ n6_ n7_
      replace HO_Ac005 := Aside0.mk (Kd.R_drew HO_Ac005.out)
      replace HO_Af005 := Aside0.mk (Kd.R_drew HO_Af005.out)
      replace HOBh := Aside0.mk (Kd.R_drew HOBh.out)
      replace BKAe := Aside0.mk (blk_drew BKAe.out)
      replace BKAd := Aside0.mk (blk_drew BKAd.out)
      replace BKAb := Aside0.mk (blk_drew BKAb.out)
      replace BKAa := Aside0.mk (blk_drew BKAa.out)
      replace HB := Aside0.mk (below_drew1 HB.out)
      refine start_ (n := 8) (S := fun w' => w'.cell? ⟨gbAb, 0, none⟩ = some (.int .i64 tAg) ∧ w'.cell? ⟨gbAb, 1, none⟩ = some (.int .i64 tAj) ∧ w'.cell? ⟨gbAb, 2, none⟩ = some (.int .i64 tAk) ∧ w'.cell? ⟨gbAb, 3, none⟩ = some (.int .i64 tAm) ∧ w'.cell? ⟨gbAb, 4, none⟩ = some (.int .i64 tAn) ∧ w'.cell? ⟨gbAb, 5, none⟩ = some (.slice Ao32 tAh.length co32) ∧ w'.cell? ⟨gbAa, 0, none⟩ = some (.int .i64 tAc) ∧ w'.cell? ⟨gbAa, 1, none⟩ = some (.int .i64 tAp) ∧ w'.cell? ⟨gbAa, 2, none⟩ = some (.int .i64 (rd yAu tAv)) ∧ w'.cell? ⟨gbAa, 3, none⟩ = some (.int .i64 tAq) ∧ w'.cell? ⟨gbAa, 4, none⟩ = some (.int .i64 tAs) ∧ w'.cell? ⟨gbAa, 5, none⟩ = some (.slice Ao40 tAi.length co40)) (ds := []) #[false, false, false, false, false, false, false, false] (by kernel_rfl) rfl rfl ⟨(blk_cell BKAb.out 0).trans rfl, (blk_cell BKAb.out 1).trans rfl, (blk_cell BKAb.out 2).trans rfl, (blk_cell BKAb.out 3).trans rfl, (blk_cell BKAb.out 4).trans rfl, (blk_cell BKAb.out 5).trans rfl, (blk_cell BKAa.out 0).trans rfl, (blk_cell BKAa.out 1).trans rfl, (blk_cell BKAa.out 2).trans rfl, (blk_cell BKAa.out 3).trans rfl, (blk_cell BKAa.out 4).trans rfl, (blk_cell BKAa.out 5).trans rfl⟩ (fun hHeld => ?_); refine with_tabW plaitinglaw5_FrameChecks.tab27 plaitinglaw5_FrameChecks.bits27 (fun HT_ HW_ => ?_)
      generalize w99.drew = w100 at HO_Ac005 HO_Af005 HOBh BKAe BKAd BKAb BKAa HB hHeld ⊢
      refine tq_ 0 117 HT_ HW_ hHeld ?_
      refine tq_ 1 118 HT_ HW_ hHeld ?_
      refine tq_ 3 120 HT_ HW_ hHeld ?_
      refine tq_ 4 121 HT_ HW_ hHeld ?_
      refine oq_ 2 119 HT_ (fun K hK => ?_)
      refine gs_ Try.func22 #[.agg #[.int .i64 tAg, .int .i64 tAj, .int .i64 tAk, .int .i64 tAm, .int .i64 tAn, .slice Ao32 tAh.length co32], .agg #[.int .i64 tAc, .int .i64 tAp, .int .i64 (rd yAu tAv), .int .i64 tAq, .int .i64 tAs, .slice Ao40 tAi.length co40]] ?_
      with_reducible refine (frame_Check.calls tAg tAj tAk tAm tAn _ _ tAh tAc tAp (rd yAu tAv) tAq tAs _ _ tAi tBs _ ?side1 ?side2 ?side3 ?side4 A89.out).mono ?_
      (case side1 => exact cC_ (Kd.R_reads' HO_Ac005.out).2.2)
      (case side2 => exact (Kd.R_reads' HO_Ac005.out).2.1)
      (case side3 => exact cC_ (Kd.R_reads' HO_Af005.out).2.2)
      (case side4 => exact (Kd.R_reads' HO_Af005.out).2.1)
      rintro e w101 ⟨rfl, hb⟩
      refine ⟨_, rfl, ?_⟩
      replace HO_Ac005 := Aside0.mk (Kd.R_below (pR_ HO_Ac005.out) hb)
      replace HO_Af005 := Aside0.mk (Kd.R_below (pR_ HO_Af005.out) hb)
      replace HOBh := Aside0.mk (Kd.R_below (pR_ HOBh.out) hb)
      replace BKAe := Aside0.mk (blk_below (pB_ BKAe.out) hb)
      replace BKAd := Aside0.mk (blk_below (pB_ BKAd.out) hb)
      replace BKAb := Aside0.mk (blk_below (pB_ BKAb.out) hb)
      replace BKAa := Aside0.mk (blk_below (pB_ BKAa.out) hb)
      replace HB := Aside0.mk (below_step (pH_ HB.out) hb)
      (try clear hb)
      (try clear hb2)
      (try clear hk)
      (try clear hi)
      refine hK.out _ _ ⟨(blk_cell BKAb.out 0).trans rfl, (blk_cell BKAb.out 1).trans rfl, (blk_cell BKAb.out 2).trans rfl, (blk_cell BKAb.out 3).trans rfl, (blk_cell BKAb.out 4).trans rfl, (blk_cell BKAb.out 5).trans rfl, (blk_cell BKAa.out 0).trans rfl, (blk_cell BKAa.out 1).trans rfl, (blk_cell BKAa.out 2).trans rfl, (blk_cell BKAa.out 3).trans rfl, (blk_cell BKAa.out 4).trans rfl, (blk_cell BKAa.out 5).trans rfl⟩ (fun hHeld => ?_)
      clear hK K
      refine nq_ 119 ?_
      refine oq_ 5 122 HT_ (fun K hK => ?_)
      refine gs_ Try.func23 #[.agg #[.int .i64 tAg, .int .i64 tAj, .int .i64 tAk, .int .i64 tAm, .int .i64 tAn, .slice Ao32 tAh.length co32], .agg #[.int .i64 tAc, .int .i64 tAp, .int .i64 (rd yAu tAv), .int .i64 tAq, .int .i64 tAs, .slice Ao40 tAi.length co40]] ?_
      with_reducible refine (plaitingref5_Check.calls kj23 tAg tAj tAk tAm tAn _ _ tAh tAc tAp (rd yAu tAv) tAq tAs _ _ tAi tBn _ ?side1 ?side2 ?side3 ?side4 A90.out).mono ?_
      (case side1 => exact cC_ (Kd.R_reads' HO_Ac005.out).2.2)
      (case side2 => exact (Kd.R_reads' HO_Ac005.out).2.1)
      (case side3 => exact cC_ (Kd.R_reads' HO_Af005.out).2.2)
      (case side4 => exact (Kd.R_reads' HO_Af005.out).2.1)
      rintro e w102 ⟨rfl, hb⟩
      refine ⟨_, rfl, ?_⟩
      replace HO_Ac005 := Aside0.mk (Kd.R_below (pR_ HO_Ac005.out) hb)
      replace HO_Af005 := Aside0.mk (Kd.R_below (pR_ HO_Af005.out) hb)
      replace HOBh := Aside0.mk (Kd.R_below (pR_ HOBh.out) hb)
      replace BKAe := Aside0.mk (blk_below (pB_ BKAe.out) hb)
      replace BKAd := Aside0.mk (blk_below (pB_ BKAd.out) hb)
      replace BKAb := Aside0.mk (blk_below (pB_ BKAb.out) hb)
      replace BKAa := Aside0.mk (blk_below (pB_ BKAa.out) hb)
      replace HB := Aside0.mk (below_step (pH_ HB.out) hb)
      (try clear hb)
      (try clear hb2)
      (try clear hk)
      (try clear hi)
      refine hK.out _ _ ⟨(blk_cell BKAb.out 0).trans rfl, (blk_cell BKAb.out 1).trans rfl, (blk_cell BKAb.out 2).trans rfl, (blk_cell BKAb.out 3).trans rfl, (blk_cell BKAb.out 4).trans rfl, (blk_cell BKAb.out 5).trans rfl, (blk_cell BKAa.out 0).trans rfl, (blk_cell BKAa.out 1).trans rfl, (blk_cell BKAa.out 2).trans rfl, (blk_cell BKAa.out 3).trans rfl, (blk_cell BKAa.out 4).trans rfl, (blk_cell BKAa.out 5).trans rfl⟩ (fun hHeld => ?_)
      clear hK K
      refine nq_ 122 ?_
      refine pq_ 6 123 HT_ ?_
      refine pq_ 7 10 HT_ ?_
      refine done_ (done_of HT_.out (by kernel_rfl)) ?_
      try go_wp2
      go_ret
      exact ⟨by first | rfl | (simp [errW_none, errW_some] <;> rfl) | (simp [*, errW_none, errW_some] <;> rfl), by repeat (first | (with_reducible first | exact HB.out | apply below_alloc | apply pw_below_drewN | apply below_drew1 | refine below_set ?_ GEAe.out | refine below_set ?_ GEAd.out | refine below_set ?_ GEAb.out | refine below_set ?_ GEAa.out) | exact HB.out)⟩
     rw [if_neg c84] at H
     have c84b0 : (tAt == 2) = false := beq_eq_false_iff_ne.mpr c84
     have c84b1 : (tAt != 2) = true := bne_iff_ne.mpr c84
     by_cases c103 : tAt = 3
     ·
      rw [if_pos c103] at H
      have c103b0 : (tAt == 3) = true := beq_iff_eq.mpr c103
      have c103b1 : (tAt != 3) = false := bne_eq_false_iff_eq.mpr c103
      clear c103
      replace H := Option.bind_eq_some_iff.mp H
      obtain ⟨tBg, ACv, H⟩ := H
      replace H : ((frame_Check.f tAg tAj tAk tAm tAn tAh tAc tAp tAr (wrap64 (tBg - 1)) tAs tAi).bind fun tCg => ((plaitingref5_Check.f kj23 tAg tAj tAk tAm tAn tAh tAc tAp tAr (wrap64 (tBg - 1)) tAs tAi).bind fun tCe => (some (tCg == tCe)))) = some r := H
      have A104 := Aside0.mk ACv
      clear ACv
      replace H := Option.bind_eq_some_iff.mp H
      obtain ⟨tCg, ACw, H⟩ := H
      replace H : ((plaitingref5_Check.f kj23 tAg tAj tAk tAm tAn tAh tAc tAp tAr (wrap64 (tBg - 1)) tAs tAi).bind fun tCe => (some (tCg == tCe))) = some r := H
      have A105 := Aside0.mk ACw
      clear ACw
      replace H := Option.bind_eq_some_iff.mp H
      obtain ⟨tCe, ACx, H⟩ := H
      replace H : (some (tCg == tCe)) = some r := H
      have A106 := Aside0.mk ACx
      clear ACx
      obtain rfl := Option.some.inj H
      try go_wp2_with (first | ((with_reducible refine gate_callee (f := 24) rfl ?_); refine gL_ 44 Try.func24 #[.int .i64 a3, .int .i64 8] ?_; (with_reducible refine (plaitinglaw5_within.calls a3 8 tAt _ A55.out).mono ?_); rintro e w' ⟨rfl, ⟨nd, rfl⟩⟩; refine ⟨_, rfl, ?_⟩; (try (rw [drewN_self wc]; generalize hq_ : World.drewN wc _ = wc; have n0_ : Aside0 (Kd.R (Kd.int .i64) 3 wc w.heap.size (fun _ => True) (.slice Ao32 tAh.length co32) tAh) := ⟨by rw [← hq_]; exact (pR_ HO_Ac005.out)⟩; have n1_ : Aside0 (Kd.R k26 26 wc w.heap.size (fun _ => True) (.slice Ao40 tAi.length co40) tAi) := ⟨by rw [← hq_]; exact (pR_ HO_Af005.out)⟩; have n2_ : Aside0 (wc.heap[gbAe]? = some (.cells #[.int .i64 a0_0, .int .i64 a0_1, .int .i64 a0_2, .int .i64 a0_3, .int .i64 a0_4, .slice A0_5 l0_5.length c0_5] 24 (0, 0))) := ⟨by rw [← hq_]; exact (pB_ BKAe.out)⟩; have n3_ : Aside0 (wc.heap[gbAd]? = some (.cells #[.int .i64 a1_0, .int .i64 a1_1, .int .i64 a1_2, .int .i64 a1_3, .int .i64 a1_4, .slice A1_5 l1_5.length c1_5] 29 (0, 0))) := ⟨by rw [← hq_]; exact (pB_ BKAd.out)⟩; have n4_ : Aside0 (wc.heap[gbAb]? = some (.cells #[.int .i64 tAg, .int .i64 tAj, .int .i64 tAk, .int .i64 tAm, .int .i64 tAn, .slice Ao32 tAh.length co32] 24 (0, 0))) := ⟨by rw [← hq_]; exact (pB_ BKAb.out)⟩; have n5_ : Aside0 (wc.heap[gbAa]? = some (.cells #[.int .i64 tAc, .int .i64 tAp, .int .i64 tAr, .int .i64 tAq, .int .i64 tAs, .slice Ao40 tAi.length co40] 29 (0, 0))) := ⟨by rw [← hq_]; exact (pB_ BKAa.out)⟩; have n6_ : Aside0 (Below w.heap.size w wc) := ⟨by rw [← hq_]; exact (pH_ HB.out)⟩; clear HO_Ac005 HO_Af005 BKAe BKAd BKAb BKAa HB hq_; have HO_Ac005 := n0_; have HO_Af005 := n1_; have BKAe := n2_; have BKAd := n3_; have BKAb := n4_; have BKAa := n5_; have HB := n6_; clear n0_ n1_ n2_ n3_ n4_ n5_ n6_))) | ((with_reducible refine gate_callee (f := 24) rfl ?_); refine gL_ 74 Try.func24 #[.int .i64 a4, .int .i64 5] ?_; (with_reducible refine (plaitinglaw5_within.calls a4 5 tBg _ A104.out).mono ?_); rintro e w' ⟨rfl, ⟨nd, rfl⟩⟩; refine ⟨_, rfl, ?_⟩; (try (rw [drewN_self wc]; generalize hq_ : World.drewN wc _ = wc; have n0_ : Aside0 (Kd.R (Kd.int .i64) 3 wc w.heap.size (fun _ => True) (.slice Ao32 tAh.length co32) tAh) := ⟨by rw [← hq_]; exact (pR_ HO_Ac005.out)⟩; have n1_ : Aside0 (Kd.R k26 26 wc w.heap.size (fun _ => True) (.slice Ao40 tAi.length co40) tAi) := ⟨by rw [← hq_]; exact (pR_ HO_Af005.out)⟩; have n2_ : Aside0 (wc.heap[gbAe]? = some (.cells #[.int .i64 a0_0, .int .i64 a0_1, .int .i64 a0_2, .int .i64 a0_3, .int .i64 a0_4, .slice A0_5 l0_5.length c0_5] 24 (0, 0))) := ⟨by rw [← hq_]; exact (pB_ BKAe.out)⟩; have n3_ : Aside0 (wc.heap[gbAd]? = some (.cells #[.int .i64 a1_0, .int .i64 a1_1, .int .i64 a1_2, .int .i64 a1_3, .int .i64 a1_4, .slice A1_5 l1_5.length c1_5] 29 (0, 0))) := ⟨by rw [← hq_]; exact (pB_ BKAd.out)⟩; have n4_ : Aside0 (wc.heap[gbAb]? = some (.cells #[.int .i64 tAg, .int .i64 tAj, .int .i64 tAk, .int .i64 tAm, .int .i64 tAn, .slice Ao32 tAh.length co32] 24 (0, 0))) := ⟨by rw [← hq_]; exact (pB_ BKAb.out)⟩; have n5_ : Aside0 (wc.heap[gbAa]? = some (.cells #[.int .i64 tAc, .int .i64 tAp, .int .i64 tAr, .int .i64 tAq, .int .i64 tAs, .slice Ao40 tAi.length co40] 29 (0, 0))) := ⟨by rw [← hq_]; exact (pB_ BKAa.out)⟩; have n6_ : Aside0 (Below w.heap.size w wc) := ⟨by rw [← hq_]; exact (pH_ HB.out)⟩; clear HO_Ac005 HO_Af005 BKAe BKAd BKAb BKAa HB hq_; have HO_Ac005 := n0_; have HO_Af005 := n1_; have BKAe := n2_; have BKAd := n3_; have BKAb := n4_; have BKAa := n5_; have HB := n6_; clear n0_ n1_ n2_ n3_ n4_ n5_ n6_)); have hnb107 := NBAa_Ae.out; have hnc107 := NBAe_Aa.out; have hnb108 := NBAa_Ad.out; have hnc108 := NBAd_Aa.out; have hnb109 := NBAa_Ab.out; have hnc109 := NBAb_Aa.out; have hcz110_0 : wc.cell? ⟨gbAa, 0, none⟩ = some (.int .i64 tAc) := (blk_cell BKAa.out 0).trans rfl; have hcz110_1 : wc.cell? ⟨gbAa, 1, none⟩ = some (.int .i64 tAp) := (blk_cell BKAa.out 1).trans rfl; have hcz110_2 : wc.cell? ⟨gbAa, 2, none⟩ = some (.int .i64 tAr) := (blk_cell BKAa.out 2).trans rfl; have hcz110_3 : wc.cell? ⟨gbAa, 3, none⟩ = some (.int .i64 tAq) := (blk_cell BKAa.out 3).trans rfl; have hcz110_4 : wc.cell? ⟨gbAa, 4, none⟩ = some (.int .i64 tAs) := (blk_cell BKAa.out 4).trans rfl; have hcz110_5 : wc.cell? ⟨gbAa, 5, none⟩ = some (.slice Ao40 tAi.length co40) := (blk_cell BKAa.out 5).trans rfl; have hfz110_0 := blk_frozen BKAa.out 0; have hfz110_1 := blk_frozen BKAa.out 1; have hfz110_2 := blk_frozen BKAa.out 2; have hfz110_3 := blk_frozen BKAa.out 3; have hfz110_4 := blk_frozen BKAa.out 4; have hfz110_5 := blk_frozen BKAa.out 5))
      have n0_ : Aside0 (Kd.R (Kd.int .i64) 3 (wc.setCell ⟨gbAa, 3, none⟩ (.int .i64 (wrap64 (tBg - 1)))) w.heap.size (fun _ => True) (.slice Ao32 tAh.length co32) tAh) := ⟨by (with_reducible repeat (first | apply Kd.R_alloc | apply Kd.R_drewN | apply Kd.R_drew)); exact Kd.R_mono (Kd.R_far (p := ⟨gbAa, 3, none⟩) (Kd.R_types HO_Ac005.out BKAa.out (by decide)) (fun _ hk => hk.2) (.int .i64 (wrap64 (tBg - 1)))) (fun _ hk => trivial)⟩
      have n1_ : Aside0 (Kd.R k26 26 (wc.setCell ⟨gbAa, 3, none⟩ (.int .i64 (wrap64 (tBg - 1)))) w.heap.size (fun _ => True) (.slice Ao40 tAi.length co40) tAi) := ⟨by (with_reducible repeat (first | apply Kd.R_alloc | apply Kd.R_drewN | apply Kd.R_drew)); exact Kd.R_mono (Kd.R_far (p := ⟨gbAa, 3, none⟩) (Kd.R_types HO_Af005.out BKAa.out (by decide)) (fun _ hk => hk.2) (.int .i64 (wrap64 (tBg - 1)))) (fun _ hk => trivial)⟩
      have n2_ : Aside0 ((wc.setCell ⟨gbAa, 3, none⟩ (.int .i64 (wrap64 (tBg - 1)))).heap[gbAe]? = some (.cells #[.int .i64 a0_0, .int .i64 a0_1, .int .i64 a0_2, .int .i64 a0_3, .int .i64 a0_4, .slice A0_5 l0_5.length c0_5] 24 (0, 0))) := ⟨by (with_reducible repeat (first | refine blk_drewN ?_ _ | refine blk_drew ?_ | refine blk_alloc ?_ _)); refine blk_far ?_ NBAe_Aa.out _; (with_reducible repeat (first | refine blk_drewN ?_ _ | refine blk_drew ?_ | refine blk_alloc ?_ _)); exact BKAe.out⟩
      have n3_ : Aside0 ((wc.setCell ⟨gbAa, 3, none⟩ (.int .i64 (wrap64 (tBg - 1)))).heap[gbAd]? = some (.cells #[.int .i64 a1_0, .int .i64 a1_1, .int .i64 a1_2, .int .i64 a1_3, .int .i64 a1_4, .slice A1_5 l1_5.length c1_5] 29 (0, 0))) := ⟨by (with_reducible repeat (first | refine blk_drewN ?_ _ | refine blk_drew ?_ | refine blk_alloc ?_ _)); refine blk_far ?_ NBAd_Aa.out _; (with_reducible repeat (first | refine blk_drewN ?_ _ | refine blk_drew ?_ | refine blk_alloc ?_ _)); exact BKAd.out⟩
      have n4_ : Aside0 ((wc.setCell ⟨gbAa, 3, none⟩ (.int .i64 (wrap64 (tBg - 1)))).heap[gbAb]? = some (.cells #[.int .i64 tAg, .int .i64 tAj, .int .i64 tAk, .int .i64 tAm, .int .i64 tAn, .slice Ao32 tAh.length co32] 24 (0, 0))) := ⟨by (with_reducible repeat (first | refine blk_drewN ?_ _ | refine blk_drew ?_ | refine blk_alloc ?_ _)); refine blk_far ?_ NBAb_Aa.out _; (with_reducible repeat (first | refine blk_drewN ?_ _ | refine blk_drew ?_ | refine blk_alloc ?_ _)); exact BKAb.out⟩
      have n5_ : Aside0 ((wc.setCell ⟨gbAa, 3, none⟩ (.int .i64 (wrap64 (tBg - 1)))).heap[gbAa]? = some (.cells #[.int .i64 tAc, .int .i64 tAp, .int .i64 tAr, .int .i64 (wrap64 (tBg - 1)), .int .i64 tAs, .slice Ao40 tAi.length co40] 29 (0, 0))) := ⟨by (with_reducible repeat (first | refine blk_drewN ?_ _ | refine blk_drew ?_ | refine blk_alloc ?_ _)); refine blk_put (cs := #[.int .i64 tAc, .int .i64 tAp, .int .i64 tAr, .int .i64 tAq, .int .i64 tAs, .slice Ao40 tAi.length co40]) ?_ 3 _ rfl; (with_reducible repeat (first | refine blk_drewN ?_ _ | refine blk_drew ?_ | refine blk_alloc ?_ _)); exact BKAa.out⟩
      have n6_ : Aside0 (Below w.heap.size w (wc.setCell ⟨gbAa, 3, none⟩ (.int .i64 (wrap64 (tBg - 1))))) := ⟨by repeat (first | (with_reducible first | exact HB.out | apply below_alloc | apply pw_below_drewN | apply below_drew1 | refine below_set ?_ GEAe.out | refine below_set ?_ GEAd.out | refine below_set ?_ GEAb.out | refine below_set ?_ GEAa.out) | exact HB.out)⟩
      (try clear HO_Ac005)
      (try clear HO_Af005)
      (try clear BKAe)
      (try clear BKAd)
      (try clear BKAb)
      (try clear BKAa)
      (try clear HB)
      generalize (wc.setCell ⟨gbAa, 3, none⟩ (.int .i64 (wrap64 (tBg - 1)))) = w111 at n0_ n1_ n2_ n3_ n4_ n5_ n6_ ⊢
      have HO_Ac005 := n0_
      have HO_Af005 := n1_
      have BKAe := n2_
      have BKAd := n3_
      have BKAb := n4_
      have BKAa := n5_
      have HB := n6_
      clear n0_ n1_ n2_ n3_ n4_ n5_ n6_
      replace HO_Ac005 := Aside0.mk (Kd.R_drew HO_Ac005.out)
      replace HO_Af005 := Aside0.mk (Kd.R_drew HO_Af005.out)
      replace BKAe := Aside0.mk (blk_drew BKAe.out)
      replace BKAd := Aside0.mk (blk_drew BKAd.out)
      replace BKAb := Aside0.mk (blk_drew BKAb.out)
      replace BKAa := Aside0.mk (blk_drew BKAa.out)
      replace HB := Aside0.mk (below_drew1 HB.out)
      refine start_ (n := 8) (S := fun w' => w'.cell? ⟨gbAb, 0, none⟩ = some (.int .i64 tAg) ∧ w'.cell? ⟨gbAb, 1, none⟩ = some (.int .i64 tAj) ∧ w'.cell? ⟨gbAb, 2, none⟩ = some (.int .i64 tAk) ∧ w'.cell? ⟨gbAb, 3, none⟩ = some (.int .i64 tAm) ∧ w'.cell? ⟨gbAb, 4, none⟩ = some (.int .i64 tAn) ∧ w'.cell? ⟨gbAb, 5, none⟩ = some (.slice Ao32 tAh.length co32) ∧ w'.cell? ⟨gbAa, 0, none⟩ = some (.int .i64 tAc) ∧ w'.cell? ⟨gbAa, 1, none⟩ = some (.int .i64 tAp) ∧ w'.cell? ⟨gbAa, 2, none⟩ = some (.int .i64 tAr) ∧ w'.cell? ⟨gbAa, 3, none⟩ = some (.int .i64 (wrap64 (tBg - 1))) ∧ w'.cell? ⟨gbAa, 4, none⟩ = some (.int .i64 tAs) ∧ w'.cell? ⟨gbAa, 5, none⟩ = some (.slice Ao40 tAi.length co40)) (ds := []) #[false, false, false, false, false, false, false, false] (by kernel_rfl) rfl rfl ⟨(blk_cell BKAb.out 0).trans rfl, (blk_cell BKAb.out 1).trans rfl, (blk_cell BKAb.out 2).trans rfl, (blk_cell BKAb.out 3).trans rfl, (blk_cell BKAb.out 4).trans rfl, (blk_cell BKAb.out 5).trans rfl, (blk_cell BKAa.out 0).trans rfl, (blk_cell BKAa.out 1).trans rfl, (blk_cell BKAa.out 2).trans rfl, (blk_cell BKAa.out 3).trans rfl, (blk_cell BKAa.out 4).trans rfl, (blk_cell BKAa.out 5).trans rfl⟩ (fun hHeld => ?_); refine with_tabW plaitinglaw5_FrameChecks.tab27 plaitinglaw5_FrameChecks.bits27 (fun HT_ HW_ => ?_)
      generalize w111.drew = w112 at HO_Ac005 HO_Af005 BKAe BKAd BKAb BKAa HB hHeld ⊢
      refine tq_ 0 117 HT_ HW_ hHeld ?_
      refine tq_ 1 118 HT_ HW_ hHeld ?_
      refine tq_ 3 120 HT_ HW_ hHeld ?_
      refine tq_ 4 121 HT_ HW_ hHeld ?_
      refine oq_ 2 119 HT_ (fun K hK => ?_)
      refine gs_ Try.func22 #[.agg #[.int .i64 tAg, .int .i64 tAj, .int .i64 tAk, .int .i64 tAm, .int .i64 tAn, .slice Ao32 tAh.length co32], .agg #[.int .i64 tAc, .int .i64 tAp, .int .i64 tAr, .int .i64 (wrap64 (tBg - 1)), .int .i64 tAs, .slice Ao40 tAi.length co40]] ?_
      with_reducible refine (frame_Check.calls tAg tAj tAk tAm tAn _ _ tAh tAc tAp tAr (wrap64 (tBg - 1)) tAs _ _ tAi tCg _ ?side1 ?side2 ?side3 ?side4 A105.out).mono ?_
      (case side1 => exact cC_ (Kd.R_reads' HO_Ac005.out).2.2)
      (case side2 => exact (Kd.R_reads' HO_Ac005.out).2.1)
      (case side3 => exact cC_ (Kd.R_reads' HO_Af005.out).2.2)
      (case side4 => exact (Kd.R_reads' HO_Af005.out).2.1)
      rintro e w113 ⟨rfl, hb⟩
      refine ⟨_, rfl, ?_⟩
      replace HO_Ac005 := Aside0.mk (Kd.R_below (pR_ HO_Ac005.out) hb)
      replace HO_Af005 := Aside0.mk (Kd.R_below (pR_ HO_Af005.out) hb)
      replace BKAe := Aside0.mk (blk_below (pB_ BKAe.out) hb)
      replace BKAd := Aside0.mk (blk_below (pB_ BKAd.out) hb)
      replace BKAb := Aside0.mk (blk_below (pB_ BKAb.out) hb)
      replace BKAa := Aside0.mk (blk_below (pB_ BKAa.out) hb)
      replace HB := Aside0.mk (below_step (pH_ HB.out) hb)
      (try clear hb)
      (try clear hb2)
      (try clear hk)
      (try clear hi)
      refine hK.out _ _ ⟨(blk_cell BKAb.out 0).trans rfl, (blk_cell BKAb.out 1).trans rfl, (blk_cell BKAb.out 2).trans rfl, (blk_cell BKAb.out 3).trans rfl, (blk_cell BKAb.out 4).trans rfl, (blk_cell BKAb.out 5).trans rfl, (blk_cell BKAa.out 0).trans rfl, (blk_cell BKAa.out 1).trans rfl, (blk_cell BKAa.out 2).trans rfl, (blk_cell BKAa.out 3).trans rfl, (blk_cell BKAa.out 4).trans rfl, (blk_cell BKAa.out 5).trans rfl⟩ (fun hHeld => ?_)
      clear hK K
      refine nq_ 119 ?_
      refine oq_ 5 122 HT_ (fun K hK => ?_)
      refine gs_ Try.func23 #[.agg #[.int .i64 tAg, .int .i64 tAj, .int .i64 tAk, .int .i64 tAm, .int .i64 tAn, .slice Ao32 tAh.length co32], .agg #[.int .i64 tAc, .int .i64 tAp, .int .i64 tAr, .int .i64 (wrap64 (tBg - 1)), .int .i64 tAs, .slice Ao40 tAi.length co40]] ?_
      with_reducible refine (plaitingref5_Check.calls kj23 tAg tAj tAk tAm tAn _ _ tAh tAc tAp tAr (wrap64 (tBg - 1)) tAs _ _ tAi tCe _ ?side1 ?side2 ?side3 ?side4 A106.out).mono ?_
      (case side1 => exact cC_ (Kd.R_reads' HO_Ac005.out).2.2)
      (case side2 => exact (Kd.R_reads' HO_Ac005.out).2.1)
      (case side3 => exact cC_ (Kd.R_reads' HO_Af005.out).2.2)
      (case side4 => exact (Kd.R_reads' HO_Af005.out).2.1)
      rintro e w114 ⟨rfl, hb⟩
      refine ⟨_, rfl, ?_⟩
      replace HO_Ac005 := Aside0.mk (Kd.R_below (pR_ HO_Ac005.out) hb)
      replace HO_Af005 := Aside0.mk (Kd.R_below (pR_ HO_Af005.out) hb)
      replace BKAe := Aside0.mk (blk_below (pB_ BKAe.out) hb)
      replace BKAd := Aside0.mk (blk_below (pB_ BKAd.out) hb)
      replace BKAb := Aside0.mk (blk_below (pB_ BKAb.out) hb)
      replace BKAa := Aside0.mk (blk_below (pB_ BKAa.out) hb)
      replace HB := Aside0.mk (below_step (pH_ HB.out) hb)
      (try clear hb)
      (try clear hb2)
      (try clear hk)
      (try clear hi)
      refine hK.out _ _ ⟨(blk_cell BKAb.out 0).trans rfl, (blk_cell BKAb.out 1).trans rfl, (blk_cell BKAb.out 2).trans rfl, (blk_cell BKAb.out 3).trans rfl, (blk_cell BKAb.out 4).trans rfl, (blk_cell BKAb.out 5).trans rfl, (blk_cell BKAa.out 0).trans rfl, (blk_cell BKAa.out 1).trans rfl, (blk_cell BKAa.out 2).trans rfl, (blk_cell BKAa.out 3).trans rfl, (blk_cell BKAa.out 4).trans rfl, (blk_cell BKAa.out 5).trans rfl⟩ (fun hHeld => ?_)
      clear hK K
      refine nq_ 122 ?_
      refine pq_ 6 123 HT_ ?_
      refine pq_ 7 10 HT_ ?_
      refine done_ (done_of HT_.out (by kernel_rfl)) ?_
      try go_wp2
      go_ret
      exact ⟨by first | rfl | (simp [errW_none, errW_some] <;> rfl) | (simp [*, errW_none, errW_some] <;> rfl), by repeat (first | (with_reducible first | exact HB.out | apply below_alloc | apply pw_below_drewN | apply below_drew1 | refine below_set ?_ GEAe.out | refine below_set ?_ GEAd.out | refine below_set ?_ GEAb.out | refine below_set ?_ GEAa.out) | exact HB.out)⟩
     rw [if_neg c103] at H
     have c103b0 : (tAt == 3) = false := beq_eq_false_iff_ne.mpr c103
     have c103b1 : (tAt != 3) = true := bne_iff_ne.mpr c103
     by_cases c115 : tAt = 4
     ·
      rw [if_pos c115] at H
      have c115b0 : (tAt == 4) = true := beq_iff_eq.mpr c115
      have c115b1 : (tAt != 4) = false := bne_eq_false_iff_eq.mpr c115
      clear c115
      obtain ⟨yAy, hyAy⟩ : ∃ y_ : List Int, y_ = (([(-1), 256, 1, a4] : List Int)) := ⟨_, rfl⟩
      replace H : ((plaitinglaw5_within.f a4 4).bind fun tBa => (if 0 ≤ tBa then (if tBa < (yAy.length : Int) then ((frame_Check.f tAg tAj tAk tAm tAn tAh tAc tAp tAr tAq (rd yAy tBa) tAi).bind fun tCc => ((plaitingref5_Check.f kj23 tAg tAj tAk tAm tAn tAh tAc tAp tAr tAq (rd yAy tBa) tAi).bind fun tBx => (some (tCc == tBx)))) else (none)) else (none))) = some r := by first | (rw [hyAy]; with_reducible exact H) | (have H2_ := (Option.bind_some _ _).symm.trans H; rw [hyAy]; with_reducible exact H2_) | (have H2_ := (Option.bind_some _ _).symm.trans H; with_reducible exact H2_) | with_reducible exact H | (rw [hyAy]; exact H) | exact H
      have NyAy := Aside0.mk hyAy
      clear hyAy
      replace H := Option.bind_eq_some_iff.mp H
      obtain ⟨tBa, ACy, H⟩ := H
      replace H : (if 0 ≤ tBa then (if tBa < (yAy.length : Int) then ((frame_Check.f tAg tAj tAk tAm tAn tAh tAc tAp tAr tAq (rd yAy tBa) tAi).bind fun tCc => ((plaitingref5_Check.f kj23 tAg tAj tAk tAm tAn tAh tAc tAp tAr tAq (rd yAy tBa) tAi).bind fun tBx => (some (tCc == tBx)))) else (none)) else (none)) = some r := H
      have A116 := Aside0.mk ACy
      clear ACy
      by_cases c117 : 0 ≤ tBa
      rotate_left
      ·
       rw [if_neg c117] at H
       exact absurd H (by simp)
      rw [if_pos c117] at H
      have c117b0 : decide (0 ≤ tBa) = true := decide_eq_true c117
      clear c117
      by_cases c118 : tBa < (yAy.length : Int)
      rotate_left
      ·
       rw [if_neg c118] at H
       exact absurd H (by simp)
      rw [if_pos c118] at H
      have c118b0 : decide (tBa < (yAy.length : Int)) = true := decide_eq_true c118
      clear c118
      replace H := Option.bind_eq_some_iff.mp H
      obtain ⟨tCc, ACz, H⟩ := H
      replace H : ((plaitingref5_Check.f kj23 tAg tAj tAk tAm tAn tAh tAc tAp tAr tAq (rd yAy tBa) tAi).bind fun tBx => (some (tCc == tBx))) = some r := H
      have A119 := Aside0.mk ACz
      clear ACz
      replace H := Option.bind_eq_some_iff.mp H
      obtain ⟨tBx, ADa, H⟩ := H
      replace H : (some (tCc == tBx)) = some r := H
      have A120 := Aside0.mk ADa
      clear ADa
      obtain rfl := Option.some.inj H
      try go_wp2_with (first | ((with_reducible refine gate_callee (f := 24) rfl ?_); refine gL_ 44 Try.func24 #[.int .i64 a3, .int .i64 8] ?_; (with_reducible refine (plaitinglaw5_within.calls a3 8 tAt _ A55.out).mono ?_); rintro e w' ⟨rfl, ⟨nd, rfl⟩⟩; refine ⟨_, rfl, ?_⟩; (try (rw [drewN_self wc]; generalize hq_ : World.drewN wc _ = wc; have n0_ : Aside0 (Kd.R (Kd.int .i64) 3 wc w.heap.size (fun _ => True) (.slice Ao32 tAh.length co32) tAh) := ⟨by rw [← hq_]; exact (pR_ HO_Ac005.out)⟩; have n1_ : Aside0 (Kd.R k26 26 wc w.heap.size (fun _ => True) (.slice Ao40 tAi.length co40) tAi) := ⟨by rw [← hq_]; exact (pR_ HO_Af005.out)⟩; have n2_ : Aside0 (wc.heap[gbAe]? = some (.cells #[.int .i64 a0_0, .int .i64 a0_1, .int .i64 a0_2, .int .i64 a0_3, .int .i64 a0_4, .slice A0_5 l0_5.length c0_5] 24 (0, 0))) := ⟨by rw [← hq_]; exact (pB_ BKAe.out)⟩; have n3_ : Aside0 (wc.heap[gbAd]? = some (.cells #[.int .i64 a1_0, .int .i64 a1_1, .int .i64 a1_2, .int .i64 a1_3, .int .i64 a1_4, .slice A1_5 l1_5.length c1_5] 29 (0, 0))) := ⟨by rw [← hq_]; exact (pB_ BKAd.out)⟩; have n4_ : Aside0 (wc.heap[gbAb]? = some (.cells #[.int .i64 tAg, .int .i64 tAj, .int .i64 tAk, .int .i64 tAm, .int .i64 tAn, .slice Ao32 tAh.length co32] 24 (0, 0))) := ⟨by rw [← hq_]; exact (pB_ BKAb.out)⟩; have n5_ : Aside0 (wc.heap[gbAa]? = some (.cells #[.int .i64 tAc, .int .i64 tAp, .int .i64 tAr, .int .i64 tAq, .int .i64 tAs, .slice Ao40 tAi.length co40] 29 (0, 0))) := ⟨by rw [← hq_]; exact (pB_ BKAa.out)⟩; have n6_ : Aside0 (Below w.heap.size w wc) := ⟨by rw [← hq_]; exact (pH_ HB.out)⟩; clear HO_Ac005 HO_Af005 BKAe BKAd BKAb BKAa HB hq_; have HO_Ac005 := n0_; have HO_Af005 := n1_; have BKAe := n2_; have BKAd := n3_; have BKAb := n4_; have BKAa := n5_; have HB := n6_; clear n0_ n1_ n2_ n3_ n4_ n5_ n6_))) | ((with_reducible refine gate_dst (N := 81) rfl ?_); (try (refine gate_guard (by rfl) ?_; dsimp only)); refine Kd.R_lit (Kd.int .i64) _ 3 ?hg (N := 81) ?hd (xs := ([(-1), 256, 1, a4] : List Int)) (inner := [.int .i64 (-1), .int .i64 256, .int .i64 1, .int .i64 a4]) (ok := fun _ => True) (okp := fun _ => True) ?hr ?hp (fun _ hk => hk) trivial (Below.refl _ _) (Nat.le_refl _) (by simp) ?_; (case hd => rfl); (case hg => rfl); (case hr => first | (go_simp; done) | (go_simp; rfl)); (case hp => exact (Reps.one (show Kd.M (Kd.int .i64) _ _ _ (-1) [.int .i64 (-1)] from rfl) (Reps.one (show Kd.M (Kd.int .i64) _ _ _ 256 [.int .i64 256] from rfl) (Reps.one (show Kd.M (Kd.int .i64) _ _ _ 1 [.int .i64 1] from rfl) (Reps.one (show Kd.M (Kd.int .i64) _ _ _ a4 [.int .i64 a4] from rfl) (Reps.none _ _)))))); intro vDp w121 ho122 hb hg_ hnew_; clear hg_ hnew_; (first | rw [← NyAy.out] at ho122 | (simp only [Int.reduceToNat] at ho122; rw [← NyAy.out] at ho122)); have HOBt := Aside0.mk (Kd.R_lower (Kd.R_new' ho122 (Kd.R_lt (pR_ HO_Ac005.out))) (below_size (pH_ HB.out))); replace HO_Ac005 := Aside0.mk (Kd.R_elder' (pR_ HO_Ac005.out) (Kd.R_base ho122) hb); replace HO_Af005 := Aside0.mk (Kd.R_below (pR_ HO_Af005.out) hb); replace BKAe := Aside0.mk (blk_below (pB_ BKAe.out) hb); replace BKAd := Aside0.mk (blk_below (pB_ BKAd.out) hb); replace BKAb := Aside0.mk (blk_below (pB_ BKAb.out) hb); replace BKAa := Aside0.mk (blk_below (pB_ BKAa.out) hb); replace HB := Aside0.mk (below_step (pH_ HB.out) hb); clear hb ho122) | ((with_reducible refine gate_callee (f := 24) rfl ?_); refine gL_ 83 Try.func24 #[.int .i64 a4, .int .i64 4] ?_; (with_reducible refine (plaitinglaw5_within.calls a4 4 tBa _ A116.out).mono ?_); rintro e w' ⟨rfl, ⟨nd, rfl⟩⟩; refine ⟨_, rfl, ?_⟩; (try (rw [drewN_self w121]; generalize hq_ : World.drewN w121 _ = w121; have n0_ : Aside0 (Kd.R (Kd.int .i64) 3 w121 w.heap.size (fun k_ => some k_ ≠ (.slice Ao32 tAh.length co32 : Value).ownBlock) vDp yAy) := ⟨by rw [← hq_]; exact (by (with_reducible repeat (first | apply Kd.R_alloc | apply Kd.R_drewN | apply Kd.R_drew)); exact Kd.R_mono HOBt.out (fun _ hk => hk.2))⟩; have n1_ : Aside0 (Kd.R (Kd.int .i64) 3 w121 w.heap.size (fun k_ => some k_ ≠ (vDp : Value).ownBlock) (.slice Ao32 tAh.length co32) tAh) := ⟨by rw [← hq_]; exact (by (with_reducible repeat (first | apply Kd.R_alloc | apply Kd.R_drewN | apply Kd.R_drew)); exact Kd.R_mono HO_Ac005.out (fun _ hk => hk.2))⟩; have n2_ : Aside0 (Kd.R k26 26 w121 w.heap.size (fun _ => True) (.slice Ao40 tAi.length co40) tAi) := ⟨by rw [← hq_]; exact (pR_ HO_Af005.out)⟩; have n3_ : Aside0 (w121.heap[gbAe]? = some (.cells #[.int .i64 a0_0, .int .i64 a0_1, .int .i64 a0_2, .int .i64 a0_3, .int .i64 a0_4, .slice A0_5 l0_5.length c0_5] 24 (0, 0))) := ⟨by rw [← hq_]; exact (pB_ BKAe.out)⟩; have n4_ : Aside0 (w121.heap[gbAd]? = some (.cells #[.int .i64 a1_0, .int .i64 a1_1, .int .i64 a1_2, .int .i64 a1_3, .int .i64 a1_4, .slice A1_5 l1_5.length c1_5] 29 (0, 0))) := ⟨by rw [← hq_]; exact (pB_ BKAd.out)⟩; have n5_ : Aside0 (w121.heap[gbAb]? = some (.cells #[.int .i64 tAg, .int .i64 tAj, .int .i64 tAk, .int .i64 tAm, .int .i64 tAn, .slice Ao32 tAh.length co32] 24 (0, 0))) := ⟨by rw [← hq_]; exact (pB_ BKAb.out)⟩; have n6_ : Aside0 (w121.heap[gbAa]? = some (.cells #[.int .i64 tAc, .int .i64 tAp, .int .i64 tAr, .int .i64 tAq, .int .i64 tAs, .slice Ao40 tAi.length co40] 29 (0, 0))) := ⟨by rw [← hq_]; exact (pB_ BKAa.out)⟩; have n7_ : Aside0 (Below w.heap.size w w121) := ⟨by rw [← hq_]; exact (pH_ HB.out)⟩; clear HOBt HO_Ac005 HO_Af005 BKAe BKAd BKAb BKAa HB hq_; have HOBt := n0_; have HO_Ac005 := n1_; have HO_Af005 := n2_; have BKAe := n3_; have BKAd := n4_; have BKAb := n5_; have BKAa := n6_; have HB := n7_; clear n0_ n1_ n2_ n3_ n4_ n5_ n6_ n7_)); obtain ⟨Ao123, co123, eo123⟩ := Kd.R_slice HOBt.out; subst eo123; have pCb : 0 ≤ (tBa : Int) := of_decide_eq_true (by first | (with_reducible assumption) | assumption); have qCb : tBa < (yAy.length : Int) := of_decide_eq_true (by first | (with_reducible assumption) | assumption); obtain ⟨adCb, eCb, hxCb_0⟩ := Kd.at_int (Kd.R_reads' HOBt.out).2.2 tBa pCb qCb; cases eCb; replace pCb := eq_true pCb; replace qCb := eq_true qCb; have hnb124 := NBAa_Ae.out; have hnc124 := NBAe_Aa.out; have hnb125 := NBAa_Ad.out; have hnc125 := NBAd_Aa.out; have hnb126 := NBAa_Ab.out; have hnc126 := NBAb_Aa.out; have hcz127_0 : w121.cell? ⟨gbAa, 0, none⟩ = some (.int .i64 tAc) := (blk_cell BKAa.out 0).trans rfl; have hcz127_1 : w121.cell? ⟨gbAa, 1, none⟩ = some (.int .i64 tAp) := (blk_cell BKAa.out 1).trans rfl; have hcz127_2 : w121.cell? ⟨gbAa, 2, none⟩ = some (.int .i64 tAr) := (blk_cell BKAa.out 2).trans rfl; have hcz127_3 : w121.cell? ⟨gbAa, 3, none⟩ = some (.int .i64 tAq) := (blk_cell BKAa.out 3).trans rfl; have hcz127_4 : w121.cell? ⟨gbAa, 4, none⟩ = some (.int .i64 tAs) := (blk_cell BKAa.out 4).trans rfl; have hcz127_5 : w121.cell? ⟨gbAa, 5, none⟩ = some (.slice Ao40 tAi.length co40) := (blk_cell BKAa.out 5).trans rfl; have hfz127_0 := blk_frozen BKAa.out 0; have hfz127_1 := blk_frozen BKAa.out 1; have hfz127_2 := blk_frozen BKAa.out 2; have hfz127_3 := blk_frozen BKAa.out 3; have hfz127_4 := blk_frozen BKAa.out 4; have hfz127_5 := blk_frozen BKAa.out 5))
      have n0_ : Aside0 (Kd.R (Kd.int .i64) 3 (w121.setCell ⟨gbAa, 4, none⟩ (.int .i64 (rd yAy tBa))) w.heap.size (fun k_ => some k_ ≠ (.slice (some adCb) yAy.length co123 : Value).ownBlock) (.slice Ao32 tAh.length co32) tAh) := ⟨by (with_reducible repeat (first | apply Kd.R_alloc | apply Kd.R_drewN | apply Kd.R_drew)); exact Kd.R_mono (Kd.R_far (p := ⟨gbAa, 4, none⟩) (Kd.R_types HO_Ac005.out BKAa.out (by decide)) (fun _ hk => hk.2) (.int .i64 (rd yAy tBa))) (fun _ hk => by first | exact hk.1.2 | exact hk.1)⟩
      have n1_ : Aside0 (Kd.R k26 26 (w121.setCell ⟨gbAa, 4, none⟩ (.int .i64 (rd yAy tBa))) w.heap.size (fun _ => True) (.slice Ao40 tAi.length co40) tAi) := ⟨by (with_reducible repeat (first | apply Kd.R_alloc | apply Kd.R_drewN | apply Kd.R_drew)); exact Kd.R_mono (Kd.R_far (p := ⟨gbAa, 4, none⟩) (Kd.R_types HO_Af005.out BKAa.out (by decide)) (fun _ hk => hk.2) (.int .i64 (rd yAy tBa))) (fun _ hk => trivial)⟩
      have n2_ : Aside0 (Kd.R (Kd.int .i64) 3 (w121.setCell ⟨gbAa, 4, none⟩ (.int .i64 (rd yAy tBa))) w.heap.size (fun k_ => some k_ ≠ (.slice Ao32 tAh.length co32 : Value).ownBlock) (.slice (some adCb) yAy.length co123) yAy) := ⟨by (with_reducible repeat (first | apply Kd.R_alloc | apply Kd.R_drewN | apply Kd.R_drew)); exact Kd.R_mono (Kd.R_far (p := ⟨gbAa, 4, none⟩) (Kd.R_types HOBt.out BKAa.out (by decide)) (fun _ hk => hk.2) (.int .i64 (rd yAy tBa))) (fun _ hk => by first | exact hk.1.2 | exact hk.1)⟩
      have n3_ : Aside0 ((w121.setCell ⟨gbAa, 4, none⟩ (.int .i64 (rd yAy tBa))).heap[gbAe]? = some (.cells #[.int .i64 a0_0, .int .i64 a0_1, .int .i64 a0_2, .int .i64 a0_3, .int .i64 a0_4, .slice A0_5 l0_5.length c0_5] 24 (0, 0))) := ⟨by (with_reducible repeat (first | refine blk_drewN ?_ _ | refine blk_drew ?_ | refine blk_alloc ?_ _)); refine blk_far ?_ NBAe_Aa.out _; (with_reducible repeat (first | refine blk_drewN ?_ _ | refine blk_drew ?_ | refine blk_alloc ?_ _)); exact BKAe.out⟩
      have n4_ : Aside0 ((w121.setCell ⟨gbAa, 4, none⟩ (.int .i64 (rd yAy tBa))).heap[gbAd]? = some (.cells #[.int .i64 a1_0, .int .i64 a1_1, .int .i64 a1_2, .int .i64 a1_3, .int .i64 a1_4, .slice A1_5 l1_5.length c1_5] 29 (0, 0))) := ⟨by (with_reducible repeat (first | refine blk_drewN ?_ _ | refine blk_drew ?_ | refine blk_alloc ?_ _)); refine blk_far ?_ NBAd_Aa.out _; (with_reducible repeat (first | refine blk_drewN ?_ _ | refine blk_drew ?_ | refine blk_alloc ?_ _)); exact BKAd.out⟩
      have n5_ : Aside0 ((w121.setCell ⟨gbAa, 4, none⟩ (.int .i64 (rd yAy tBa))).heap[gbAb]? = some (.cells #[.int .i64 tAg, .int .i64 tAj, .int .i64 tAk, .int .i64 tAm, .int .i64 tAn, .slice Ao32 tAh.length co32] 24 (0, 0))) := ⟨by (with_reducible repeat (first | refine blk_drewN ?_ _ | refine blk_drew ?_ | refine blk_alloc ?_ _)); refine blk_far ?_ NBAb_Aa.out _; (with_reducible repeat (first | refine blk_drewN ?_ _ | refine blk_drew ?_ | refine blk_alloc ?_ _)); exact BKAb.out⟩
      have n6_ : Aside0 ((w121.setCell ⟨gbAa, 4, none⟩ (.int .i64 (rd yAy tBa))).heap[gbAa]? = some (.cells #[.int .i64 tAc, .int .i64 tAp, .int .i64 tAr, .int .i64 tAq, .int .i64 (rd yAy tBa), .slice Ao40 tAi.length co40] 29 (0, 0))) := ⟨by (with_reducible repeat (first | refine blk_drewN ?_ _ | refine blk_drew ?_ | refine blk_alloc ?_ _)); refine blk_put (cs := #[.int .i64 tAc, .int .i64 tAp, .int .i64 tAr, .int .i64 tAq, .int .i64 tAs, .slice Ao40 tAi.length co40]) ?_ 4 _ rfl; (with_reducible repeat (first | refine blk_drewN ?_ _ | refine blk_drew ?_ | refine blk_alloc ?_ _)); exact BKAa.out⟩
      have n7_ : Aside0 (Below w.heap.size w (w121.setCell ⟨gbAa, 4, none⟩ (.int .i64 (rd yAy tBa)))) := ⟨by repeat (first | (with_reducible first | exact HB.out | apply below_alloc | apply pw_below_drewN | apply below_drew1 | refine below_set ?_ GEAe.out | refine below_set ?_ GEAd.out | refine below_set ?_ GEAb.out | refine below_set ?_ GEAa.out) | exact HB.out)⟩
      (try clear HO_Ac005)
      (try clear HO_Af005)
      (try clear HOBt)
      (try clear BKAe)
      (try clear BKAd)
      (try clear BKAb)
      (try clear BKAa)
      (try clear HB)
      generalize (w121.setCell ⟨gbAa, 4, none⟩ (.int .i64 (rd yAy tBa))) = w128 at n0_ n1_ n2_ n3_ n4_ n5_ n6_ n7_ ⊢
      have HO_Ac005 := n0_
      have HO_Af005 := n1_
      have HOBt := n2_
      have BKAe := n3_
      have BKAd := n4_
      have BKAb := n5_
      have BKAa := n6_
      have HB := n7_
      clear n0_ n1_ n2_ n3_ n4_ n5_ n6_ n7_
      replace HO_Ac005 := Aside0.mk (Kd.R_drew HO_Ac005.out)
      replace HO_Af005 := Aside0.mk (Kd.R_drew HO_Af005.out)
      replace HOBt := Aside0.mk (Kd.R_drew HOBt.out)
      replace BKAe := Aside0.mk (blk_drew BKAe.out)
      replace BKAd := Aside0.mk (blk_drew BKAd.out)
      replace BKAb := Aside0.mk (blk_drew BKAb.out)
      replace BKAa := Aside0.mk (blk_drew BKAa.out)
      replace HB := Aside0.mk (below_drew1 HB.out)
      refine start_ (n := 8) (S := fun w' => w'.cell? ⟨gbAb, 0, none⟩ = some (.int .i64 tAg) ∧ w'.cell? ⟨gbAb, 1, none⟩ = some (.int .i64 tAj) ∧ w'.cell? ⟨gbAb, 2, none⟩ = some (.int .i64 tAk) ∧ w'.cell? ⟨gbAb, 3, none⟩ = some (.int .i64 tAm) ∧ w'.cell? ⟨gbAb, 4, none⟩ = some (.int .i64 tAn) ∧ w'.cell? ⟨gbAb, 5, none⟩ = some (.slice Ao32 tAh.length co32) ∧ w'.cell? ⟨gbAa, 0, none⟩ = some (.int .i64 tAc) ∧ w'.cell? ⟨gbAa, 1, none⟩ = some (.int .i64 tAp) ∧ w'.cell? ⟨gbAa, 2, none⟩ = some (.int .i64 tAr) ∧ w'.cell? ⟨gbAa, 3, none⟩ = some (.int .i64 tAq) ∧ w'.cell? ⟨gbAa, 4, none⟩ = some (.int .i64 (rd yAy tBa)) ∧ w'.cell? ⟨gbAa, 5, none⟩ = some (.slice Ao40 tAi.length co40)) (ds := []) #[false, false, false, false, false, false, false, false] (by kernel_rfl) rfl rfl ⟨(blk_cell BKAb.out 0).trans rfl, (blk_cell BKAb.out 1).trans rfl, (blk_cell BKAb.out 2).trans rfl, (blk_cell BKAb.out 3).trans rfl, (blk_cell BKAb.out 4).trans rfl, (blk_cell BKAb.out 5).trans rfl, (blk_cell BKAa.out 0).trans rfl, (blk_cell BKAa.out 1).trans rfl, (blk_cell BKAa.out 2).trans rfl, (blk_cell BKAa.out 3).trans rfl, (blk_cell BKAa.out 4).trans rfl, (blk_cell BKAa.out 5).trans rfl⟩ (fun hHeld => ?_); refine with_tabW plaitinglaw5_FrameChecks.tab27 plaitinglaw5_FrameChecks.bits27 (fun HT_ HW_ => ?_)
      generalize w128.drew = w129 at HO_Ac005 HO_Af005 HOBt BKAe BKAd BKAb BKAa HB hHeld ⊢
      refine tq_ 0 117 HT_ HW_ hHeld ?_
      refine tq_ 1 118 HT_ HW_ hHeld ?_
      refine tq_ 3 120 HT_ HW_ hHeld ?_
      refine tq_ 4 121 HT_ HW_ hHeld ?_
      refine oq_ 2 119 HT_ (fun K hK => ?_)
      refine gs_ Try.func22 #[.agg #[.int .i64 tAg, .int .i64 tAj, .int .i64 tAk, .int .i64 tAm, .int .i64 tAn, .slice Ao32 tAh.length co32], .agg #[.int .i64 tAc, .int .i64 tAp, .int .i64 tAr, .int .i64 tAq, .int .i64 (rd yAy tBa), .slice Ao40 tAi.length co40]] ?_
      with_reducible refine (frame_Check.calls tAg tAj tAk tAm tAn _ _ tAh tAc tAp tAr tAq (rd yAy tBa) _ _ tAi tCc _ ?side1 ?side2 ?side3 ?side4 A119.out).mono ?_
      (case side1 => exact cC_ (Kd.R_reads' HO_Ac005.out).2.2)
      (case side2 => exact (Kd.R_reads' HO_Ac005.out).2.1)
      (case side3 => exact cC_ (Kd.R_reads' HO_Af005.out).2.2)
      (case side4 => exact (Kd.R_reads' HO_Af005.out).2.1)
      rintro e w130 ⟨rfl, hb⟩
      refine ⟨_, rfl, ?_⟩
      replace HO_Ac005 := Aside0.mk (Kd.R_below (pR_ HO_Ac005.out) hb)
      replace HO_Af005 := Aside0.mk (Kd.R_below (pR_ HO_Af005.out) hb)
      replace HOBt := Aside0.mk (Kd.R_below (pR_ HOBt.out) hb)
      replace BKAe := Aside0.mk (blk_below (pB_ BKAe.out) hb)
      replace BKAd := Aside0.mk (blk_below (pB_ BKAd.out) hb)
      replace BKAb := Aside0.mk (blk_below (pB_ BKAb.out) hb)
      replace BKAa := Aside0.mk (blk_below (pB_ BKAa.out) hb)
      replace HB := Aside0.mk (below_step (pH_ HB.out) hb)
      (try clear hb)
      (try clear hb2)
      (try clear hk)
      (try clear hi)
      refine hK.out _ _ ⟨(blk_cell BKAb.out 0).trans rfl, (blk_cell BKAb.out 1).trans rfl, (blk_cell BKAb.out 2).trans rfl, (blk_cell BKAb.out 3).trans rfl, (blk_cell BKAb.out 4).trans rfl, (blk_cell BKAb.out 5).trans rfl, (blk_cell BKAa.out 0).trans rfl, (blk_cell BKAa.out 1).trans rfl, (blk_cell BKAa.out 2).trans rfl, (blk_cell BKAa.out 3).trans rfl, (blk_cell BKAa.out 4).trans rfl, (blk_cell BKAa.out 5).trans rfl⟩ (fun hHeld => ?_)
      clear hK K
      refine nq_ 119 ?_
      refine oq_ 5 122 HT_ (fun K hK => ?_)
      refine gs_ Try.func23 #[.agg #[.int .i64 tAg, .int .i64 tAj, .int .i64 tAk, .int .i64 tAm, .int .i64 tAn, .slice Ao32 tAh.length co32], .agg #[.int .i64 tAc, .int .i64 tAp, .int .i64 tAr, .int .i64 tAq, .int .i64 (rd yAy tBa), .slice Ao40 tAi.length co40]] ?_
      with_reducible refine (plaitingref5_Check.calls kj23 tAg tAj tAk tAm tAn _ _ tAh tAc tAp tAr tAq (rd yAy tBa) _ _ tAi tBx _ ?side1 ?side2 ?side3 ?side4 A120.out).mono ?_
      (case side1 => exact cC_ (Kd.R_reads' HO_Ac005.out).2.2)
      (case side2 => exact (Kd.R_reads' HO_Ac005.out).2.1)
      (case side3 => exact cC_ (Kd.R_reads' HO_Af005.out).2.2)
      (case side4 => exact (Kd.R_reads' HO_Af005.out).2.1)
      rintro e w131 ⟨rfl, hb⟩
      refine ⟨_, rfl, ?_⟩
      replace HO_Ac005 := Aside0.mk (Kd.R_below (pR_ HO_Ac005.out) hb)
      replace HO_Af005 := Aside0.mk (Kd.R_below (pR_ HO_Af005.out) hb)
      replace HOBt := Aside0.mk (Kd.R_below (pR_ HOBt.out) hb)
      replace BKAe := Aside0.mk (blk_below (pB_ BKAe.out) hb)
      replace BKAd := Aside0.mk (blk_below (pB_ BKAd.out) hb)
      replace BKAb := Aside0.mk (blk_below (pB_ BKAb.out) hb)
      replace BKAa := Aside0.mk (blk_below (pB_ BKAa.out) hb)
      replace HB := Aside0.mk (below_step (pH_ HB.out) hb)
      (try clear hb)
      (try clear hb2)
      (try clear hk)
      (try clear hi)
      refine hK.out _ _ ⟨(blk_cell BKAb.out 0).trans rfl, (blk_cell BKAb.out 1).trans rfl, (blk_cell BKAb.out 2).trans rfl, (blk_cell BKAb.out 3).trans rfl, (blk_cell BKAb.out 4).trans rfl, (blk_cell BKAb.out 5).trans rfl, (blk_cell BKAa.out 0).trans rfl, (blk_cell BKAa.out 1).trans rfl, (blk_cell BKAa.out 2).trans rfl, (blk_cell BKAa.out 3).trans rfl, (blk_cell BKAa.out 4).trans rfl, (blk_cell BKAa.out 5).trans rfl⟩ (fun hHeld => ?_)
      clear hK K
      refine nq_ 122 ?_
      refine pq_ 6 123 HT_ ?_
      refine pq_ 7 10 HT_ ?_
      refine done_ (done_of HT_.out (by kernel_rfl)) ?_
      try go_wp2
      go_ret
      exact ⟨by first | rfl | (simp [errW_none, errW_some] <;> rfl) | (simp [*, errW_none, errW_some] <;> rfl), by repeat (first | (with_reducible first | exact HB.out | apply below_alloc | apply pw_below_drewN | apply below_drew1 | refine below_set ?_ GEAe.out | refine below_set ?_ GEAd.out | refine below_set ?_ GEAb.out | refine below_set ?_ GEAa.out) | exact HB.out)⟩
     rw [if_neg c115] at H
     have c115b0 : (tAt == 4) = false := beq_eq_false_iff_ne.mpr c115
     have c115b1 : (tAt != 4) = true := bne_iff_ne.mpr c115
     by_cases c132 : tAt = 5
     ·
      rw [if_pos c132] at H
      have c132b0 : (tAt == 5) = true := beq_iff_eq.mpr c132
      have c132b1 : (tAt != 5) = false := bne_eq_false_iff_eq.mpr c132
      clear c132
      obtain ⟨yBj, hyBj⟩ : ∃ y_ : List (S26), y_ = (([] : List (S26))) := ⟨_, rfl⟩
      replace H : (if yBj.length + tAi.length < 8796093022208 then ((some (yBj ++ tAi : List (S26))).bind fun yBi => (if yBi.length < 8796093022208 then ((some (yBi ++ [(⟨0, 0⟩ : S26)] : List (S26))).bind fun yBd => ((frame_Check.f tAg tAj tAk tAm tAn tAh tAc tAp tAr tAq tAs yBd).bind fun tBv => ((plaitingref5_Check.f kj23 tAg tAj tAk tAm tAn tAh tAc tAp tAr tAq tAs yBd).bind fun tBp => (some (tBv == tBp))))) else (none))) else (none)) = some r := by first | (rw [hyBj]; with_reducible exact H) | (have H2_ := (Option.bind_some _ _).symm.trans H; rw [hyBj]; with_reducible exact H2_) | (have H2_ := (Option.bind_some _ _).symm.trans H; with_reducible exact H2_) | with_reducible exact H | (rw [hyBj]; exact H) | exact H
      have NyBj := Aside0.mk hyBj
      clear hyBj
      by_cases c133 : yBj.length + tAi.length < 8796093022208
      rotate_left
      ·
       rw [if_neg c133] at H
       exact absurd H (by simp)
      rw [if_pos c133] at H
      have LMc133 := Aside0.mk c133
      clear c133
      obtain ⟨yBi, hyBi⟩ : ∃ y_ : List (S26), y_ = (yBj ++ tAi) := ⟨_, rfl⟩
      replace H : (if yBi.length < 8796093022208 then ((some (yBi ++ [(⟨0, 0⟩ : S26)] : List (S26))).bind fun yBd => ((frame_Check.f tAg tAj tAk tAm tAn tAh tAc tAp tAr tAq tAs yBd).bind fun tBv => ((plaitingref5_Check.f kj23 tAg tAj tAk tAm tAn tAh tAc tAp tAr tAq tAs yBd).bind fun tBp => (some (tBv == tBp))))) else (none)) = some r := by first | (rw [hyBi]; with_reducible exact H) | (have H2_ := (Option.bind_some _ _).symm.trans H; rw [hyBi]; with_reducible exact H2_) | (have H2_ := (Option.bind_some _ _).symm.trans H; with_reducible exact H2_) | with_reducible exact H | (rw [hyBi]; exact H) | exact H
      have NyBi := Aside0.mk hyBi
      clear hyBi
      by_cases c134 : yBi.length < 8796093022208
      rotate_left
      ·
       rw [if_neg c134] at H
       exact absurd H (by simp)
      rw [if_pos c134] at H
      have LMc134 := Aside0.mk c134
      clear c134
      obtain ⟨yBd, hyBd⟩ : ∃ y_ : List (S26), y_ = (yBi ++ [(⟨0, 0⟩ : S26)]) := ⟨_, rfl⟩
      replace H : ((frame_Check.f tAg tAj tAk tAm tAn tAh tAc tAp tAr tAq tAs yBd).bind fun tBv => ((plaitingref5_Check.f kj23 tAg tAj tAk tAm tAn tAh tAc tAp tAr tAq tAs yBd).bind fun tBp => (some (tBv == tBp)))) = some r := by first | (rw [hyBd]; with_reducible exact H) | (have H2_ := (Option.bind_some _ _).symm.trans H; rw [hyBd]; with_reducible exact H2_) | (have H2_ := (Option.bind_some _ _).symm.trans H; with_reducible exact H2_) | with_reducible exact H | (rw [hyBd]; exact H) | exact H
      have NyBd := Aside0.mk hyBd
      clear hyBd
      replace H := Option.bind_eq_some_iff.mp H
      obtain ⟨tBv, ADb, H⟩ := H
      replace H : ((plaitingref5_Check.f kj23 tAg tAj tAk tAm tAn tAh tAc tAp tAr tAq tAs yBd).bind fun tBp => (some (tBv == tBp))) = some r := H
      have A135 := Aside0.mk ADb
      clear ADb
      replace H := Option.bind_eq_some_iff.mp H
      obtain ⟨tBp, ADc, H⟩ := H
      replace H : (some (tBv == tBp)) = some r := H
      have A136 := Aside0.mk ADc
      clear ADc
      obtain rfl := Option.some.inj H
      try go_wp2_with (first | ((with_reducible refine gate_callee (f := 24) rfl ?_); refine gL_ 44 Try.func24 #[.int .i64 a3, .int .i64 8] ?_; (with_reducible refine (plaitinglaw5_within.calls a3 8 tAt _ A55.out).mono ?_); rintro e w' ⟨rfl, ⟨nd, rfl⟩⟩; refine ⟨_, rfl, ?_⟩; (try (rw [drewN_self wc]; generalize hq_ : World.drewN wc _ = wc; have n0_ : Aside0 (Kd.R (Kd.int .i64) 3 wc w.heap.size (fun _ => True) (.slice Ao32 tAh.length co32) tAh) := ⟨by rw [← hq_]; exact (pR_ HO_Ac005.out)⟩; have n1_ : Aside0 (Kd.R k26 26 wc w.heap.size (fun _ => True) (.slice Ao40 tAi.length co40) tAi) := ⟨by rw [← hq_]; exact (pR_ HO_Af005.out)⟩; have n2_ : Aside0 (wc.heap[gbAe]? = some (.cells #[.int .i64 a0_0, .int .i64 a0_1, .int .i64 a0_2, .int .i64 a0_3, .int .i64 a0_4, .slice A0_5 l0_5.length c0_5] 24 (0, 0))) := ⟨by rw [← hq_]; exact (pB_ BKAe.out)⟩; have n3_ : Aside0 (wc.heap[gbAd]? = some (.cells #[.int .i64 a1_0, .int .i64 a1_1, .int .i64 a1_2, .int .i64 a1_3, .int .i64 a1_4, .slice A1_5 l1_5.length c1_5] 29 (0, 0))) := ⟨by rw [← hq_]; exact (pB_ BKAd.out)⟩; have n4_ : Aside0 (wc.heap[gbAb]? = some (.cells #[.int .i64 tAg, .int .i64 tAj, .int .i64 tAk, .int .i64 tAm, .int .i64 tAn, .slice Ao32 tAh.length co32] 24 (0, 0))) := ⟨by rw [← hq_]; exact (pB_ BKAb.out)⟩; have n5_ : Aside0 (wc.heap[gbAa]? = some (.cells #[.int .i64 tAc, .int .i64 tAp, .int .i64 tAr, .int .i64 tAq, .int .i64 tAs, .slice Ao40 tAi.length co40] 29 (0, 0))) := ⟨by rw [← hq_]; exact (pB_ BKAa.out)⟩; have n6_ : Aside0 (Below w.heap.size w wc) := ⟨by rw [← hq_]; exact (pH_ HB.out)⟩; clear HO_Ac005 HO_Af005 BKAe BKAd BKAb BKAa HB hq_; have HO_Ac005 := n0_; have HO_Af005 := n1_; have BKAe := n2_; have BKAd := n3_; have BKAb := n4_; have BKAa := n5_; have HB := n6_; clear n0_ n1_ n2_ n3_ n4_ n5_ n6_))) | ((with_reducible refine gate_dst (N := 90) rfl ?_); (try (refine gate_guard (by rfl) ?_; dsimp only)); refine Kd.R_lit k26 _ 26 ?hg (N := 90) ?hd (xs := ([] : List (S26))) (inner := []) (ok := fun _ => True) (okp := fun _ => True) ?hr ?hp (fun _ hk => hk) trivial (Below.refl _ _) (Nat.le_refl _) (by simp) ?_; (case hd => rfl); (case hg => rfl); (case hr => first | (go_simp; done) | (go_simp; rfl)); (case hp => exact (Reps.none _ _)); intro vDq w137 ho138 hb hg_ hnew_; clear hg_ hnew_; (first | rw [← NyBj.out] at ho138 | (simp only [Int.reduceToNat] at ho138; rw [← NyBj.out] at ho138)); have HOCt := Aside0.mk (Kd.R_lower (Kd.R_new' ho138 (Kd.R_lt (pR_ HO_Af005.out))) (below_size (pH_ HB.out))); replace HO_Ac005 := Aside0.mk (Kd.R_below (pR_ HO_Ac005.out) hb); replace HO_Af005 := Aside0.mk (Kd.R_elder' (pR_ HO_Af005.out) (Kd.R_base ho138) hb); replace BKAe := Aside0.mk (blk_below (pB_ BKAe.out) hb); replace BKAd := Aside0.mk (blk_below (pB_ BKAd.out) hb); replace BKAb := Aside0.mk (blk_below (pB_ BKAb.out) hb); replace BKAa := Aside0.mk (blk_below (pB_ BKAa.out) hb); replace HB := Aside0.mk (below_step (pH_ HB.out) hb); clear hb ho138; have hnb139 := NBAa_Ae.out; have hnc139 := NBAe_Aa.out; have hnb140 := NBAa_Ad.out; have hnc140 := NBAd_Aa.out; have hnb141 := NBAa_Ab.out; have hnc141 := NBAb_Aa.out; have hcz142_0 : w137.cell? ⟨gbAa, 0, none⟩ = some (.int .i64 tAc) := (blk_cell BKAa.out 0).trans rfl; have hcz142_1 : w137.cell? ⟨gbAa, 1, none⟩ = some (.int .i64 tAp) := (blk_cell BKAa.out 1).trans rfl; have hcz142_2 : w137.cell? ⟨gbAa, 2, none⟩ = some (.int .i64 tAr) := (blk_cell BKAa.out 2).trans rfl; have hcz142_3 : w137.cell? ⟨gbAa, 3, none⟩ = some (.int .i64 tAq) := (blk_cell BKAa.out 3).trans rfl; have hcz142_4 : w137.cell? ⟨gbAa, 4, none⟩ = some (.int .i64 tAs) := (blk_cell BKAa.out 4).trans rfl; have hcz142_5 : w137.cell? ⟨gbAa, 5, none⟩ = some (.slice Ao40 tAi.length co40) := (blk_cell BKAa.out 5).trans rfl; have hfz142_0 := blk_frozen BKAa.out 0; have hfz142_1 := blk_frozen BKAa.out 1; have hfz142_2 := blk_frozen BKAa.out 2; have hfz142_3 := blk_frozen BKAa.out 3; have hfz142_4 := blk_frozen BKAa.out 4; have hfz142_5 := blk_frozen BKAa.out 5) | ((with_reducible refine gate_builtin (b := .append) (xs := #[.tmp 90, .tmp 92]) rfl ?_); (try (refine gate_guard (by rfl) ?_; dsimp only)); at_builtin; refine Kd.R_append_rows k26 (w0 := w) w.heap.size rfl (.tmp 90) (.tmp 92) 27 26 (.agg #[(.int .i64 0), (.int .i64 0)]) 16 rfl Try.underlying27 info26 rfl (by decide) (by omega) vDq yBj tAi _ _ _ (fun k_ => some k_ ≠ (.slice Ao40 tAi.length co40 : Value).ownBlock) (fun _ => False) rfl rfl ?aO ?aR (fun _ _ h => h) (fun _ h => h.elim) ?aF ?aB ?aS ?aL ?_; (case aR => repeat (first | exact (Kd.R_reads' HO_Af005.out).2.2 | (with_reducible refine Kd.C_alloc ?_ _) | (with_reducible refine Kd.C_drewN ?_ _) | (with_reducible refine Kd.C_drew ?_))); (case aB => exact (pH_ HB.out)); (case aF => exact (fun k_ hk => Kd.fresh' (Kd.R_lt (pR_ HO_Af005.out)) k_ hk)); (case aO => exact (by (with_reducible repeat (first | apply Kd.R_alloc | apply Kd.R_drewN | apply Kd.R_drew)); exact Kd.R_mono HOCt.out (fun _ hk => hk.2))); (case aS => exact (below_size (pH_ HB.out))); (case aL => have := LMc133.out; omega); intro vDr w143 ho hb hg hat; rw [← NyBi.out] at ho; have n0_ := Aside0.mk (Kd.R_over' (pR_ HO_Ac005.out) (Kd.R_typed (pR_ HOCt.out)) (by decide) hg); have n1_ := Aside0.mk (Kd.R_after (ok := (fun _ => True)) (pR_ HO_Af005.out) hg hat); have n2_ := Aside0.mk (blk_grown (g := gbAe) (o := .cells #[.int .i64 a0_0, .int .i64 a0_1, .int .i64 a0_2, .int .i64 a0_3, .int .i64 a0_4, .slice A0_5 l0_5.length c0_5] 24 (0, 0)) (pB_ BKAe.out) hg (Kd.R_ne HOCt.out BKAe.out (by decide))); have n3_ := Aside0.mk (blk_grown (g := gbAd) (o := .cells #[.int .i64 a1_0, .int .i64 a1_1, .int .i64 a1_2, .int .i64 a1_3, .int .i64 a1_4, .slice A1_5 l1_5.length c1_5] 29 (0, 0)) (pB_ BKAd.out) hg (Kd.R_ne HOCt.out BKAd.out (by decide))); have n4_ := Aside0.mk (blk_grown (g := gbAb) (o := .cells #[.int .i64 tAg, .int .i64 tAj, .int .i64 tAk, .int .i64 tAm, .int .i64 tAn, .slice Ao32 tAh.length co32] 24 (0, 0)) (pB_ BKAb.out) hg (Kd.R_ne HOCt.out BKAb.out (by decide))); have n5_ := Aside0.mk (blk_grown (g := gbAa) (o := .cells #[.int .i64 tAc, .int .i64 tAp, .int .i64 tAr, .int .i64 tAq, .int .i64 tAs, .slice Ao40 tAi.length co40] 29 (0, 0)) (pB_ BKAa.out) hg (Kd.R_ne HOCt.out BKAa.out (by decide))); have n6_ := Aside0.mk (hb); have n7_ := Aside0.mk (ho); clear HO_Ac005; clear HO_Af005; clear BKAe; clear BKAd; clear BKAb; clear BKAa; clear HB; clear HOCt; have HO_Ac005 := n0_; have HO_Af005 := n1_; have BKAe := n2_; have BKAd := n3_; have BKAb := n4_; have BKAa := n5_; have HB := n6_; have HOCu := n7_; clear n0_ n1_ n2_ n3_ n4_ n5_ n6_ n7_; clear ho hb hg hat) | ((with_reducible refine gate_builtin (b := .append) (xs := #[.tmp 93, .tmp 95]) rfl ?_); (try (refine gate_guard (by rfl) ?_; dsimp only)); at_builtin; refine Kd.R_append k26 (w0 := w) w.heap.size rfl (.tmp 93) (.tmp 95) 27 26 (.agg #[(.int .i64 0), (.int .i64 0)]) 16 rfl Try.underlying27 info26 rfl (by decide) (by omega) vDr yBi (⟨0, 0⟩ : S26) [.int .i64 0, .int .i64 0] (fun k_ => some k_ ≠ (.slice Ao40 tAi.length co40 : Value).ownBlock) (fun _ => False) rfl rfl ?aP (fun _ hk => hk.elim) ?aF ?aO ?aB ?aS ?aL ?_; (case aP => exact k26_mkM _ _ _ (⟨0, 0⟩ : S26)); (case aB => exact (pH_ HB.out)); (case aF => exact (fun k_ hk => Kd.fresh' (Kd.R_lt (pR_ HO_Af005.out)) k_ hk)); (case aO => exact (pR_ HOCu.out)); (case aS => exact (below_size (pH_ HB.out))); (case aL => have := LMc134.out; omega); intro vDu w144 ho hb hg hat; rw [← NyBd.out] at ho; have n0_ := Aside0.mk (Kd.R_over' (pR_ HO_Ac005.out) (Kd.R_typed (pR_ HOCu.out)) (by decide) hg); have n1_ := Aside0.mk (Kd.R_after (ok := (fun _ => True)) (pR_ HO_Af005.out) hg hat); have n2_ := Aside0.mk (blk_grown (g := gbAe) (o := .cells #[.int .i64 a0_0, .int .i64 a0_1, .int .i64 a0_2, .int .i64 a0_3, .int .i64 a0_4, .slice A0_5 l0_5.length c0_5] 24 (0, 0)) (pB_ BKAe.out) hg (Kd.R_ne HOCu.out BKAe.out (by decide))); have n3_ := Aside0.mk (blk_grown (g := gbAd) (o := .cells #[.int .i64 a1_0, .int .i64 a1_1, .int .i64 a1_2, .int .i64 a1_3, .int .i64 a1_4, .slice A1_5 l1_5.length c1_5] 29 (0, 0)) (pB_ BKAd.out) hg (Kd.R_ne HOCu.out BKAd.out (by decide))); have n4_ := Aside0.mk (blk_grown (g := gbAb) (o := .cells #[.int .i64 tAg, .int .i64 tAj, .int .i64 tAk, .int .i64 tAm, .int .i64 tAn, .slice Ao32 tAh.length co32] 24 (0, 0)) (pB_ BKAb.out) hg (Kd.R_ne HOCu.out BKAb.out (by decide))); have n5_ := Aside0.mk (blk_grown (g := gbAa) (o := .cells #[.int .i64 tAc, .int .i64 tAp, .int .i64 tAr, .int .i64 tAq, .int .i64 tAs, .slice Ao40 tAi.length co40] 29 (0, 0)) (pB_ BKAa.out) hg (Kd.R_ne HOCu.out BKAa.out (by decide))); have n6_ := Aside0.mk (hb); have n7_ := Aside0.mk (ho); clear HO_Ac005; clear HO_Af005; clear BKAe; clear BKAd; clear BKAb; clear BKAa; clear HB; clear HOCu; have HO_Ac005 := n0_; have HO_Af005 := n1_; have BKAe := n2_; have BKAd := n3_; have BKAb := n4_; have BKAa := n5_; have HB := n6_; have HOBu := n7_; clear n0_ n1_ n2_ n3_ n4_ n5_ n6_ n7_; clear ho hb hg hat; obtain ⟨Ao145, co145, eo145⟩ := Kd.R_slice HOBu.out; subst eo145; have hcz146_0 : w144.cell? ⟨gbAa, 0, none⟩ = some (.int .i64 tAc) := (blk_cell BKAa.out 0).trans rfl; have hcz146_1 : w144.cell? ⟨gbAa, 1, none⟩ = some (.int .i64 tAp) := (blk_cell BKAa.out 1).trans rfl; have hcz146_2 : w144.cell? ⟨gbAa, 2, none⟩ = some (.int .i64 tAr) := (blk_cell BKAa.out 2).trans rfl; have hcz146_3 : w144.cell? ⟨gbAa, 3, none⟩ = some (.int .i64 tAq) := (blk_cell BKAa.out 3).trans rfl; have hcz146_4 : w144.cell? ⟨gbAa, 4, none⟩ = some (.int .i64 tAs) := (blk_cell BKAa.out 4).trans rfl; have hcz146_5 : w144.cell? ⟨gbAa, 5, none⟩ = some (.slice Ao40 tAi.length co40) := (blk_cell BKAa.out 5).trans rfl; have hfz146_0 := blk_frozen BKAa.out 0; have hfz146_1 := blk_frozen BKAa.out 1; have hfz146_2 := blk_frozen BKAa.out 2; have hfz146_3 := blk_frozen BKAa.out 3; have hfz146_4 := blk_frozen BKAa.out 4; have hfz146_5 := blk_frozen BKAa.out 5))
      have n0_ : Aside0 (Kd.R (Kd.int .i64) 3 (w144.setCell ⟨gbAa, 5, none⟩ (.slice Ao145 yBd.length co145)) w.heap.size (fun _ => True) (.slice Ao32 tAh.length co32) tAh) := ⟨by (with_reducible repeat (first | apply Kd.R_alloc | apply Kd.R_drewN | apply Kd.R_drew)); exact Kd.R_mono (Kd.R_far (p := ⟨gbAa, 5, none⟩) (Kd.R_types HO_Ac005.out BKAa.out (by decide)) (fun _ hk => hk.2) (.slice Ao145 yBd.length co145)) (fun _ hk => trivial)⟩
      have n1_ : Aside0 (Kd.R k26 26 (w144.setCell ⟨gbAa, 5, none⟩ (.slice Ao145 yBd.length co145)) w.heap.size (fun k_ => some k_ ≠ (.slice Ao145 yBd.length co145 : Value).ownBlock) (.slice Ao40 tAi.length co40) tAi) := ⟨by (with_reducible repeat (first | apply Kd.R_alloc | apply Kd.R_drewN | apply Kd.R_drew)); exact Kd.R_mono (Kd.R_far (p := ⟨gbAa, 5, none⟩) (Kd.R_types HO_Af005.out BKAa.out (by decide)) (fun _ hk => hk.2) (.slice Ao145 yBd.length co145)) (fun _ hk => by first | exact hk.1.2 | exact hk.1)⟩
      have n2_ : Aside0 (Kd.R k26 26 (w144.setCell ⟨gbAa, 5, none⟩ (.slice Ao145 yBd.length co145)) w.heap.size (fun k_ => some k_ ≠ (.slice Ao40 tAi.length co40 : Value).ownBlock) (.slice Ao145 yBd.length co145) yBd) := ⟨by (with_reducible repeat (first | apply Kd.R_alloc | apply Kd.R_drewN | apply Kd.R_drew)); exact Kd.R_mono (Kd.R_far (p := ⟨gbAa, 5, none⟩) (Kd.R_types HOBu.out BKAa.out (by decide)) (fun _ hk => hk.2) (.slice Ao145 yBd.length co145)) (fun _ hk => hk.1)⟩
      have n3_ : Aside0 ((w144.setCell ⟨gbAa, 5, none⟩ (.slice Ao145 yBd.length co145)).heap[gbAe]? = some (.cells #[.int .i64 a0_0, .int .i64 a0_1, .int .i64 a0_2, .int .i64 a0_3, .int .i64 a0_4, .slice A0_5 l0_5.length c0_5] 24 (0, 0))) := ⟨by (with_reducible repeat (first | refine blk_drewN ?_ _ | refine blk_drew ?_ | refine blk_alloc ?_ _)); refine blk_far ?_ NBAe_Aa.out _; (with_reducible repeat (first | refine blk_drewN ?_ _ | refine blk_drew ?_ | refine blk_alloc ?_ _)); exact BKAe.out⟩
      have n4_ : Aside0 ((w144.setCell ⟨gbAa, 5, none⟩ (.slice Ao145 yBd.length co145)).heap[gbAd]? = some (.cells #[.int .i64 a1_0, .int .i64 a1_1, .int .i64 a1_2, .int .i64 a1_3, .int .i64 a1_4, .slice A1_5 l1_5.length c1_5] 29 (0, 0))) := ⟨by (with_reducible repeat (first | refine blk_drewN ?_ _ | refine blk_drew ?_ | refine blk_alloc ?_ _)); refine blk_far ?_ NBAd_Aa.out _; (with_reducible repeat (first | refine blk_drewN ?_ _ | refine blk_drew ?_ | refine blk_alloc ?_ _)); exact BKAd.out⟩
      have n5_ : Aside0 ((w144.setCell ⟨gbAa, 5, none⟩ (.slice Ao145 yBd.length co145)).heap[gbAb]? = some (.cells #[.int .i64 tAg, .int .i64 tAj, .int .i64 tAk, .int .i64 tAm, .int .i64 tAn, .slice Ao32 tAh.length co32] 24 (0, 0))) := ⟨by (with_reducible repeat (first | refine blk_drewN ?_ _ | refine blk_drew ?_ | refine blk_alloc ?_ _)); refine blk_far ?_ NBAb_Aa.out _; (with_reducible repeat (first | refine blk_drewN ?_ _ | refine blk_drew ?_ | refine blk_alloc ?_ _)); exact BKAb.out⟩
      have n6_ : Aside0 ((w144.setCell ⟨gbAa, 5, none⟩ (.slice Ao145 yBd.length co145)).heap[gbAa]? = some (.cells #[.int .i64 tAc, .int .i64 tAp, .int .i64 tAr, .int .i64 tAq, .int .i64 tAs, .slice Ao145 yBd.length co145] 29 (0, 0))) := ⟨by (with_reducible repeat (first | refine blk_drewN ?_ _ | refine blk_drew ?_ | refine blk_alloc ?_ _)); refine blk_put (cs := #[.int .i64 tAc, .int .i64 tAp, .int .i64 tAr, .int .i64 tAq, .int .i64 tAs, .slice Ao40 tAi.length co40]) ?_ 5 _ rfl; (with_reducible repeat (first | refine blk_drewN ?_ _ | refine blk_drew ?_ | refine blk_alloc ?_ _)); exact BKAa.out⟩
      have n7_ : Aside0 (Below w.heap.size w (w144.setCell ⟨gbAa, 5, none⟩ (.slice Ao145 yBd.length co145))) := ⟨by repeat (first | (with_reducible first | exact HB.out | apply below_alloc | apply pw_below_drewN | apply below_drew1 | refine below_set ?_ GEAe.out | refine below_set ?_ GEAd.out | refine below_set ?_ GEAb.out | refine below_set ?_ GEAa.out) | exact HB.out)⟩
      (try clear HO_Ac005)
      (try clear HO_Af005)
      (try clear HOBu)
      (try clear BKAe)
      (try clear BKAd)
      (try clear BKAb)
      (try clear BKAa)
      (try clear HB)
      generalize (w144.setCell ⟨gbAa, 5, none⟩ (.slice Ao145 yBd.length co145)) = w147 at n0_ n1_ n2_ n3_ n4_ n5_ n6_ n7_ ⊢
      have HO_Ac005 := n0_
      have HO_Af005 := n1_
      have HOBu := n2_
      have BKAe := n3_
      have BKAd := n4_
      have BKAb := n5_
      have BKAa := n6_
      have HB := n7_
      clear n0_ n1_ n2_ n3_ n4_ n5_ n6_ n7_
      replace HO_Ac005 := Aside0.mk (Kd.R_drew HO_Ac005.out)
      replace HO_Af005 := Aside0.mk (Kd.R_drew HO_Af005.out)
      replace HOBu := Aside0.mk (Kd.R_drew HOBu.out)
      replace BKAe := Aside0.mk (blk_drew BKAe.out)
      replace BKAd := Aside0.mk (blk_drew BKAd.out)
      replace BKAb := Aside0.mk (blk_drew BKAb.out)
      replace BKAa := Aside0.mk (blk_drew BKAa.out)
      replace HB := Aside0.mk (below_drew1 HB.out)
      refine start_ (n := 8) (S := fun w' => w'.cell? ⟨gbAb, 0, none⟩ = some (.int .i64 tAg) ∧ w'.cell? ⟨gbAb, 1, none⟩ = some (.int .i64 tAj) ∧ w'.cell? ⟨gbAb, 2, none⟩ = some (.int .i64 tAk) ∧ w'.cell? ⟨gbAb, 3, none⟩ = some (.int .i64 tAm) ∧ w'.cell? ⟨gbAb, 4, none⟩ = some (.int .i64 tAn) ∧ w'.cell? ⟨gbAb, 5, none⟩ = some (.slice Ao32 tAh.length co32) ∧ w'.cell? ⟨gbAa, 0, none⟩ = some (.int .i64 tAc) ∧ w'.cell? ⟨gbAa, 1, none⟩ = some (.int .i64 tAp) ∧ w'.cell? ⟨gbAa, 2, none⟩ = some (.int .i64 tAr) ∧ w'.cell? ⟨gbAa, 3, none⟩ = some (.int .i64 tAq) ∧ w'.cell? ⟨gbAa, 4, none⟩ = some (.int .i64 tAs) ∧ w'.cell? ⟨gbAa, 5, none⟩ = some (.slice Ao145 yBd.length co145)) (ds := []) #[false, false, false, false, false, false, false, false] (by kernel_rfl) rfl rfl ⟨(blk_cell BKAb.out 0).trans rfl, (blk_cell BKAb.out 1).trans rfl, (blk_cell BKAb.out 2).trans rfl, (blk_cell BKAb.out 3).trans rfl, (blk_cell BKAb.out 4).trans rfl, (blk_cell BKAb.out 5).trans rfl, (blk_cell BKAa.out 0).trans rfl, (blk_cell BKAa.out 1).trans rfl, (blk_cell BKAa.out 2).trans rfl, (blk_cell BKAa.out 3).trans rfl, (blk_cell BKAa.out 4).trans rfl, (blk_cell BKAa.out 5).trans rfl⟩ (fun hHeld => ?_); refine with_tabW plaitinglaw5_FrameChecks.tab27 plaitinglaw5_FrameChecks.bits27 (fun HT_ HW_ => ?_)
      generalize w147.drew = w148 at HO_Ac005 HO_Af005 HOBu BKAe BKAd BKAb BKAa HB hHeld ⊢
      refine tq_ 0 117 HT_ HW_ hHeld ?_
      refine tq_ 1 118 HT_ HW_ hHeld ?_
      refine tq_ 3 120 HT_ HW_ hHeld ?_
      refine tq_ 4 121 HT_ HW_ hHeld ?_
      refine oq_ 2 119 HT_ (fun K hK => ?_)
      refine gs_ Try.func22 #[.agg #[.int .i64 tAg, .int .i64 tAj, .int .i64 tAk, .int .i64 tAm, .int .i64 tAn, .slice Ao32 tAh.length co32], .agg #[.int .i64 tAc, .int .i64 tAp, .int .i64 tAr, .int .i64 tAq, .int .i64 tAs, .slice Ao145 yBd.length co145]] ?_
      with_reducible refine (frame_Check.calls tAg tAj tAk tAm tAn _ _ tAh tAc tAp tAr tAq tAs _ _ yBd tBv _ ?side1 ?side2 ?side3 ?side4 A135.out).mono ?_
      (case side1 => exact cC_ (Kd.R_reads' HO_Ac005.out).2.2)
      (case side2 => exact (Kd.R_reads' HO_Ac005.out).2.1)
      (case side3 => exact cC_ (Kd.R_reads' HOBu.out).2.2)
      (case side4 => exact (Kd.R_reads' HOBu.out).2.1)
      rintro e w149 ⟨rfl, hb⟩
      refine ⟨_, rfl, ?_⟩
      replace HO_Ac005 := Aside0.mk (Kd.R_below (pR_ HO_Ac005.out) hb)
      replace HO_Af005 := Aside0.mk (Kd.R_below (pR_ HO_Af005.out) hb)
      replace HOBu := Aside0.mk (Kd.R_below (pR_ HOBu.out) hb)
      replace BKAe := Aside0.mk (blk_below (pB_ BKAe.out) hb)
      replace BKAd := Aside0.mk (blk_below (pB_ BKAd.out) hb)
      replace BKAb := Aside0.mk (blk_below (pB_ BKAb.out) hb)
      replace BKAa := Aside0.mk (blk_below (pB_ BKAa.out) hb)
      replace HB := Aside0.mk (below_step (pH_ HB.out) hb)
      (try clear hb)
      (try clear hb2)
      (try clear hk)
      (try clear hi)
      refine hK.out _ _ ⟨(blk_cell BKAb.out 0).trans rfl, (blk_cell BKAb.out 1).trans rfl, (blk_cell BKAb.out 2).trans rfl, (blk_cell BKAb.out 3).trans rfl, (blk_cell BKAb.out 4).trans rfl, (blk_cell BKAb.out 5).trans rfl, (blk_cell BKAa.out 0).trans rfl, (blk_cell BKAa.out 1).trans rfl, (blk_cell BKAa.out 2).trans rfl, (blk_cell BKAa.out 3).trans rfl, (blk_cell BKAa.out 4).trans rfl, (blk_cell BKAa.out 5).trans rfl⟩ (fun hHeld => ?_)
      clear hK K
      refine nq_ 119 ?_
      refine oq_ 5 122 HT_ (fun K hK => ?_)
      refine gs_ Try.func23 #[.agg #[.int .i64 tAg, .int .i64 tAj, .int .i64 tAk, .int .i64 tAm, .int .i64 tAn, .slice Ao32 tAh.length co32], .agg #[.int .i64 tAc, .int .i64 tAp, .int .i64 tAr, .int .i64 tAq, .int .i64 tAs, .slice Ao145 yBd.length co145]] ?_
      with_reducible refine (plaitingref5_Check.calls kj23 tAg tAj tAk tAm tAn _ _ tAh tAc tAp tAr tAq tAs _ _ yBd tBp _ ?side1 ?side2 ?side3 ?side4 A136.out).mono ?_
      (case side1 => exact cC_ (Kd.R_reads' HO_Ac005.out).2.2)
      (case side2 => exact (Kd.R_reads' HO_Ac005.out).2.1)
      (case side3 => exact cC_ (Kd.R_reads' HOBu.out).2.2)
      (case side4 => exact (Kd.R_reads' HOBu.out).2.1)
      rintro e w150 ⟨rfl, hb⟩
      refine ⟨_, rfl, ?_⟩
      replace HO_Ac005 := Aside0.mk (Kd.R_below (pR_ HO_Ac005.out) hb)
      replace HO_Af005 := Aside0.mk (Kd.R_below (pR_ HO_Af005.out) hb)
      replace HOBu := Aside0.mk (Kd.R_below (pR_ HOBu.out) hb)
      replace BKAe := Aside0.mk (blk_below (pB_ BKAe.out) hb)
      replace BKAd := Aside0.mk (blk_below (pB_ BKAd.out) hb)
      replace BKAb := Aside0.mk (blk_below (pB_ BKAb.out) hb)
      replace BKAa := Aside0.mk (blk_below (pB_ BKAa.out) hb)
      replace HB := Aside0.mk (below_step (pH_ HB.out) hb)
      (try clear hb)
      (try clear hb2)
      (try clear hk)
      (try clear hi)
      refine hK.out _ _ ⟨(blk_cell BKAb.out 0).trans rfl, (blk_cell BKAb.out 1).trans rfl, (blk_cell BKAb.out 2).trans rfl, (blk_cell BKAb.out 3).trans rfl, (blk_cell BKAb.out 4).trans rfl, (blk_cell BKAb.out 5).trans rfl, (blk_cell BKAa.out 0).trans rfl, (blk_cell BKAa.out 1).trans rfl, (blk_cell BKAa.out 2).trans rfl, (blk_cell BKAa.out 3).trans rfl, (blk_cell BKAa.out 4).trans rfl, (blk_cell BKAa.out 5).trans rfl⟩ (fun hHeld => ?_)
      clear hK K
      refine nq_ 122 ?_
      refine pq_ 6 123 HT_ ?_
      refine pq_ 7 10 HT_ ?_
      refine done_ (done_of HT_.out (by kernel_rfl)) ?_
      try go_wp2
      go_ret
      exact ⟨by first | rfl | (simp [errW_none, errW_some] <;> rfl) | (simp [*, errW_none, errW_some] <;> rfl), by repeat (first | (with_reducible first | exact HB.out | apply below_alloc | apply pw_below_drewN | apply below_drew1 | refine below_set ?_ GEAe.out | refine below_set ?_ GEAd.out | refine below_set ?_ GEAb.out | refine below_set ?_ GEAa.out) | exact HB.out)⟩
     rw [if_neg c132] at H
     have c132b0 : (tAt == 5) = false := beq_eq_false_iff_ne.mpr c132
     have c132b1 : (tAt != 5) = true := bne_iff_ne.mpr c132
     by_cases c151 : tAt = 6
     ·
      rw [if_pos c151] at H
      have c151b0 : (tAt == 6) = true := beq_iff_eq.mpr c151
      have c151b1 : (tAt != 6) = false := bne_eq_false_iff_eq.mpr c151
      clear c151
      by_cases c152 : (tAi.length : Int) > 0
      ·
       rw [if_pos c152] at H
       have c152b0 : decide (0 < (tAi.length : Int)) = true := decide_eq_true c152
       have c152b1 : decide (0 < tAi.length) = true := decide_eq_true (by omega)
       clear c152
       replace H := Option.bind_eq_some_iff.mp H
       obtain ⟨tAw, ADd, H⟩ := H
       replace H : (if 0 ≤ tAw then (if tAw < (tAi.length : Int) then ((some (tAi.set (tAw : Int).toNat (⟨a1_3, a1_4⟩ : S26) : List (S26))).bind fun yBf => ((frame_Check.f tAg tAj tAk tAm tAn tAh tAc tAp tAr tAq tAs yBf).bind fun tCd => ((plaitingref5_Check.f kj23 tAg tAj tAk tAm tAn tAh tAc tAp tAr tAq tAs yBf).bind fun tBy => (some (tCd == tBy))))) else (none)) else (none)) = some r := H
       have A153 := Aside0.mk ADd
       clear ADd
       by_cases c154 : 0 ≤ tAw
       rotate_left
       ·
        rw [if_neg c154] at H
        exact absurd H (by simp)
       rw [if_pos c154] at H
       have c154b0 : decide (0 ≤ tAw) = true := decide_eq_true c154
       clear c154
       by_cases c155 : tAw < (tAi.length : Int)
       rotate_left
       ·
        rw [if_neg c155] at H
        exact absurd H (by simp)
       rw [if_pos c155] at H
       have c155b0 : decide (tAw < (tAi.length : Int)) = true := decide_eq_true c155
       clear c155
       obtain ⟨yBf, hyBf⟩ : ∃ y_ : List (S26), y_ = (tAi.set (tAw : Int).toNat (⟨a1_3, a1_4⟩ : S26)) := ⟨_, rfl⟩
       replace H : ((frame_Check.f tAg tAj tAk tAm tAn tAh tAc tAp tAr tAq tAs yBf).bind fun tCd => ((plaitingref5_Check.f kj23 tAg tAj tAk tAm tAn tAh tAc tAp tAr tAq tAs yBf).bind fun tBy => (some (tCd == tBy)))) = some r := by first | (rw [hyBf]; with_reducible exact H) | (have H2_ := (Option.bind_some _ _).symm.trans H; rw [hyBf]; with_reducible exact H2_) | (have H2_ := (Option.bind_some _ _).symm.trans H; with_reducible exact H2_) | with_reducible exact H | (rw [hyBf]; exact H) | exact H
       have NyBf := Aside0.mk hyBf
       clear hyBf
       replace H := Option.bind_eq_some_iff.mp H
       obtain ⟨tCd, ADe, H⟩ := H
       replace H : ((plaitingref5_Check.f kj23 tAg tAj tAk tAm tAn tAh tAc tAp tAr tAq tAs yBf).bind fun tBy => (some (tCd == tBy))) = some r := H
       have A157 := Aside0.mk ADe
       clear ADe
       replace H := Option.bind_eq_some_iff.mp H
       obtain ⟨tBy, ADf, H⟩ := H
       replace H : (some (tCd == tBy)) = some r := H
       have A158 := Aside0.mk ADf
       clear ADf
       obtain rfl := Option.some.inj H
       try go_wp2_with (first | ((with_reducible refine gate_callee (f := 24) rfl ?_); refine gL_ 44 Try.func24 #[.int .i64 a3, .int .i64 8] ?_; (with_reducible refine (plaitinglaw5_within.calls a3 8 tAt _ A55.out).mono ?_); rintro e w' ⟨rfl, ⟨nd, rfl⟩⟩; refine ⟨_, rfl, ?_⟩; (try (rw [drewN_self wc]; generalize hq_ : World.drewN wc _ = wc; have n0_ : Aside0 (Kd.R (Kd.int .i64) 3 wc w.heap.size (fun _ => True) (.slice Ao32 tAh.length co32) tAh) := ⟨by rw [← hq_]; exact (pR_ HO_Ac005.out)⟩; have n1_ : Aside0 (Kd.R k26 26 wc w.heap.size (fun _ => True) (.slice Ao40 tAi.length co40) tAi) := ⟨by rw [← hq_]; exact (pR_ HO_Af005.out)⟩; have n2_ : Aside0 (wc.heap[gbAe]? = some (.cells #[.int .i64 a0_0, .int .i64 a0_1, .int .i64 a0_2, .int .i64 a0_3, .int .i64 a0_4, .slice A0_5 l0_5.length c0_5] 24 (0, 0))) := ⟨by rw [← hq_]; exact (pB_ BKAe.out)⟩; have n3_ : Aside0 (wc.heap[gbAd]? = some (.cells #[.int .i64 a1_0, .int .i64 a1_1, .int .i64 a1_2, .int .i64 a1_3, .int .i64 a1_4, .slice A1_5 l1_5.length c1_5] 29 (0, 0))) := ⟨by rw [← hq_]; exact (pB_ BKAd.out)⟩; have n4_ : Aside0 (wc.heap[gbAb]? = some (.cells #[.int .i64 tAg, .int .i64 tAj, .int .i64 tAk, .int .i64 tAm, .int .i64 tAn, .slice Ao32 tAh.length co32] 24 (0, 0))) := ⟨by rw [← hq_]; exact (pB_ BKAb.out)⟩; have n5_ : Aside0 (wc.heap[gbAa]? = some (.cells #[.int .i64 tAc, .int .i64 tAp, .int .i64 tAr, .int .i64 tAq, .int .i64 tAs, .slice Ao40 tAi.length co40] 29 (0, 0))) := ⟨by rw [← hq_]; exact (pB_ BKAa.out)⟩; have n6_ : Aside0 (Below w.heap.size w wc) := ⟨by rw [← hq_]; exact (pH_ HB.out)⟩; clear HO_Ac005 HO_Af005 BKAe BKAd BKAb BKAa HB hq_; have HO_Ac005 := n0_; have HO_Af005 := n1_; have BKAe := n2_; have BKAd := n3_; have BKAb := n4_; have BKAa := n5_; have HB := n6_; clear n0_ n1_ n2_ n3_ n4_ n5_ n6_)); have hnb159 := NBAa_Ae.out; have hnc159 := NBAe_Aa.out; have hnb160 := NBAa_Ad.out; have hnc160 := NBAd_Aa.out; have hnb161 := NBAa_Ab.out; have hnc161 := NBAb_Aa.out; have hcz162_0 : wc.cell? ⟨gbAa, 0, none⟩ = some (.int .i64 tAc) := (blk_cell BKAa.out 0).trans rfl; have hcz162_1 : wc.cell? ⟨gbAa, 1, none⟩ = some (.int .i64 tAp) := (blk_cell BKAa.out 1).trans rfl; have hcz162_2 : wc.cell? ⟨gbAa, 2, none⟩ = some (.int .i64 tAr) := (blk_cell BKAa.out 2).trans rfl; have hcz162_3 : wc.cell? ⟨gbAa, 3, none⟩ = some (.int .i64 tAq) := (blk_cell BKAa.out 3).trans rfl; have hcz162_4 : wc.cell? ⟨gbAa, 4, none⟩ = some (.int .i64 tAs) := (blk_cell BKAa.out 4).trans rfl; have hcz162_5 : wc.cell? ⟨gbAa, 5, none⟩ = some (.slice Ao40 tAi.length co40) := (blk_cell BKAa.out 5).trans rfl; have hfz162_0 := blk_frozen BKAa.out 0; have hfz162_1 := blk_frozen BKAa.out 1; have hfz162_2 := blk_frozen BKAa.out 2; have hfz162_3 := blk_frozen BKAa.out 3; have hfz162_4 := blk_frozen BKAa.out 4; have hfz162_5 := blk_frozen BKAa.out 5))
       replace HO_Ac005 := Aside0.mk (Kd.R_drew HO_Ac005.out)
       replace HO_Af005 := Aside0.mk (Kd.R_drew HO_Af005.out)
       replace BKAe := Aside0.mk (blk_drew BKAe.out)
       replace BKAd := Aside0.mk (blk_drew BKAd.out)
       replace BKAb := Aside0.mk (blk_drew BKAb.out)
       replace BKAa := Aside0.mk (blk_drew BKAa.out)
       replace HB := Aside0.mk (below_drew1 HB.out)
       refine start_ (n := 11) (S := fun w' => w'.cell? ⟨gbAa, 0, none⟩ = some (.int .i64 tAc) ∧ w'.cell? ⟨gbAa, 1, none⟩ = some (.int .i64 tAp) ∧ w'.cell? ⟨gbAa, 2, none⟩ = some (.int .i64 tAr) ∧ w'.cell? ⟨gbAa, 3, none⟩ = some (.int .i64 tAq) ∧ w'.cell? ⟨gbAa, 4, none⟩ = some (.int .i64 tAs) ∧ w'.cell? ⟨gbAa, 5, none⟩ = some (.slice Ao40 tAi.length co40) ∧ w'.cell? ⟨gbAd, 0, none⟩ = some (.int .i64 a1_0) ∧ w'.cell? ⟨gbAd, 1, none⟩ = some (.int .i64 a1_1) ∧ w'.cell? ⟨gbAd, 2, none⟩ = some (.int .i64 a1_2) ∧ w'.cell? ⟨gbAd, 3, none⟩ = some (.int .i64 a1_3) ∧ w'.cell? ⟨gbAd, 4, none⟩ = some (.int .i64 a1_4) ∧ w'.cell? ⟨gbAd, 5, none⟩ = some (.slice A1_5 l1_5.length c1_5)) (ds := [10]) #[false, false, false, false, false, false, false, false, false, false, false] (by kernel_rfl) rfl rfl ⟨(blk_cell BKAa.out 0).trans rfl, (blk_cell BKAa.out 1).trans rfl, (blk_cell BKAa.out 2).trans rfl, (blk_cell BKAa.out 3).trans rfl, (blk_cell BKAa.out 4).trans rfl, (blk_cell BKAa.out 5).trans rfl, (blk_cell BKAd.out 0).trans rfl, (blk_cell BKAd.out 1).trans rfl, (blk_cell BKAd.out 2).trans rfl, (blk_cell BKAd.out 3).trans rfl, (blk_cell BKAd.out 4).trans rfl, (blk_cell BKAd.out 5).trans rfl⟩ (fun hHeld => ?_); refine with_tabW plaitinglaw5_FrameChecks.tab24 plaitinglaw5_FrameChecks.bits24 (fun HT_ HW_ => ?_)
       generalize wc.drew = w163 at HO_Ac005 HO_Af005 BKAe BKAd BKAb BKAa HB hHeld ⊢
       refine pq_ 0 104 HT_ ?_
       refine pq_ 2 106 HT_ ?_
       refine pq_ 3 107 HT_ ?_
       refine pq_ 7 111 HT_ ?_
       refine tq_ 1 105 HT_ HW_ hHeld ?_
       refine tq_ 4 108 HT_ HW_ hHeld ?_
       refine pq_ 5 109 HT_ ?_
       refine tq_ 8 112 HT_ HW_ hHeld ?_
       refine oq_ 6 110 HT_ (fun K hK => ?_)
       refine gs_ Try.func24 #[.int .i64 a4, .int .i64 (tAi.length : Int)] ?_
       with_reducible refine (plaitinglaw5_within.calls a4 (tAi.length : Int) tAw _ A153.out).mono ?_
       rintro e w' ⟨rfl, ⟨nd, rfl⟩⟩
       refine ⟨_, rfl, ?_⟩
       have p156 : 0 ≤ (tAw : Int) := of_decide_eq_true (by first | (with_reducible assumption) | assumption)
       have q156 : (tAw : Int) < ((tAi.length : Int) : Int) := of_decide_eq_true (by first | (with_reducible assumption) | assumption)
       obtain ⟨go156, co156, eo156, gb156, gl156, cl156, HG156⟩ := Kd.R_form HO_Af005.out (by omega)
       (first | cases eo156 | (injection eo156 with ea_ en_ ec_; (first | subst ea_ | (injection ea_ with ea_; subst ea_)); subst ec_; clear en_))
       have GB156 := Aside0.mk gb156
       have GG156 := Aside0.mk HG156
       clear gb156 gl156 HG156
       obtain ⟨ce156, hcl156, hM156, hcc156, hfr156⟩ := Kd.R_elem HO_Af005.out z26 (tAw : Int) p156 q156
       obtain rfl := k26_openM hM156
       have hx156_0 : World.cell? _ ⟨go156, (tAw : Int).toNat * 2, none⟩ = some (.int .i64 ((rd_T26 tAi tAw).f0)) := hcc156 0 _ rfl
       have hx156_1 : World.cell? _ ⟨go156, (tAw : Int).toNat * 2 + 1, none⟩ = some (.int .i64 ((rd_T26 tAi tAw).f1)) := hcc156 1 _ rfl
       have hf156_0 : World.frozen? _ ⟨go156, (tAw : Int).toNat * 2, none⟩ = false := hfr156 0
       have hf156_1 : World.frozen? _ ⟨go156, (tAw : Int).toNat * 2 + 1, none⟩ = false := hfr156 1
       clear hcl156 hcc156 hfr156 hM156
       replace p156 := eq_true p156
       replace q156 := eq_true q156
       obtain ⟨ce164, hcl164, hM164, hcc164, hfr164⟩ := Kd.R_elem HO_Af005.out z26 (tAw : Int) (of_decide_eq_true (by first | (with_reducible assumption) | assumption)) (by have h_ : (tAw : Int) < ((tAi.length : Int) : Int) := of_decide_eq_true (by first | (with_reducible assumption) | assumption); first | exact h_ | (have e_ := (Kd.R_reads' HO_Af005.out).1; omega) | simpa using h_)
       obtain rfl := k26_openM hM164
       have HP164 := (Kd.R_seg HO_Af005.out (tAw : Int) (of_decide_eq_true (by first | (with_reducible assumption) | assumption)) (by have h_ : (tAw : Int) < ((tAi.length : Int) : Int) := of_decide_eq_true (by first | (with_reducible assumption) | assumption); first | exact h_ | (have e_ := (Kd.R_reads' HO_Af005.out).1; omega) | simpa using h_) (seg := [.int .i64 a1_3, .int .i64 a1_4]) (j := 0) hcl164 hcc164 (show 2 ≤ 2 from by decide) (x' := (⟨a1_3, a1_4⟩ : S26)) (k26_mkM _ _ _ (⟨a1_3, a1_4⟩ : S26) ) (fun _ hk => hk)).1
       rw [← NyBf.out] at HP164
       have HQ164 := Aside0.mk HP164
       clear hcl164 hcc164 hfr164 hM164 HP164
       refine hK.out _ _ ⟨(blk_cell BKAa.out 0).trans rfl, (blk_cell BKAa.out 1).trans rfl, (blk_cell BKAa.out 2).trans rfl, (blk_cell BKAa.out 3).trans rfl, (blk_cell BKAa.out 4).trans rfl, (blk_cell BKAa.out 5).trans rfl, (blk_cell BKAd.out 0).trans rfl, (blk_cell BKAd.out 1).trans rfl, (blk_cell BKAd.out 2).trans rfl, (blk_cell BKAd.out 3).trans rfl, (blk_cell BKAd.out 4).trans rfl, (blk_cell BKAd.out 5).trans rfl⟩ (fun hHeld => ?_)
       clear hK K
       refine nq_ 110 ?_
       refine pq_ 9 113 HT_ ?_
       refine last_ (i := 10) (N := none) #[true, true, true, true, true, true, true, true, true, true, true] rfl rfl (one_of HT_.out (by kernel_rfl)) (by decide) (fun K hK => ?_)
       refine skip_ (w1 := ?_) (by rfl) rfl ?_ ?_
       rotate_left
       ·
        go_simp
        rfl
       refine hK.out _ _ ?_
       clear hK K
       refine done_ (done_of HT_.out (by kernel_rfl)) ?_
       try go_wp2
       (try (rw [drewN_self w163]; generalize hq_ : World.drewN w163 _ = w163; have n0_ := Aside0.mk (Kd.R_at hq_ HO_Ac005.out); have n1_ := Aside0.mk (Kd.R_at hq_ HO_Af005.out); have n2_ := Aside0.mk (blk_at hq_ BKAe.out); have n3_ := Aside0.mk (blk_at hq_ BKAd.out); have n4_ := Aside0.mk (blk_at hq_ BKAb.out); have n5_ := Aside0.mk (blk_at hq_ BKAa.out); have n6_ := Aside0.mk (below_at hq_ HB.out); have nG_ := Aside0.mk (blk_at hq_ GG156.out); have nH_ : Aside0 (Kd.R k26 26 ((w163.setCell ⟨go156, (tAw : Int).toNat * 2, none⟩ (.int .i64 a1_3)).setCell ⟨go156, (tAw : Int).toNat * 2 + 1, none⟩ (.int .i64 a1_4)) w.heap.size (fun _ => True) (.slice (some ⟨go156, 0, none⟩) tAi.length co40) yBf) := ⟨by rw [← hq_]; exact Kd.R_drewN HQ164.out _⟩; clear GG156 HQ164; have GG156 := nG_; have HQ164 := nH_; clear nG_ nH_; clear hq_ HO_Ac005 HO_Af005 BKAe BKAd BKAb BKAa HB; have HO_Ac005 := n0_; have HO_Af005 := n1_; have BKAe := n2_; have BKAd := n3_; have BKAb := n4_; have BKAa := n5_; have HB := n6_; clear n0_ n1_ n2_ n3_ n4_ n5_ n6_))
       have n0_ : Aside0 (Kd.R (Kd.int .i64) 3 ((w163.setCell ⟨go156, (tAw : Int).toNat * 2, none⟩ (.int .i64 a1_3)).setCell ⟨go156, (tAw : Int).toNat * 2 + 1, none⟩ (.int .i64 a1_4)) w.heap.size (fun _ => True) (.slice Ao32 tAh.length co32) tAh) := ⟨by (with_reducible repeat (first | apply Kd.R_alloc | apply Kd.R_drewN | apply Kd.R_drew)); exact Kd.R_mono (Kd.R_far (p := ⟨go156, (tAw : Int).toNat * 2 + 1, none⟩) (Kd.R_far (p := ⟨go156, (tAw : Int).toNat * 2, none⟩) (Kd.R_types HO_Ac005.out GG156.out (by decide)) (fun _ hk => hk.2) (.int .i64 a1_3)) (fun _ hk => hk.2) (.int .i64 a1_4)) (fun _ hk => trivial)⟩
       have n1_ : Aside0 (Kd.R k26 26 ((w163.setCell ⟨go156, (tAw : Int).toNat * 2, none⟩ (.int .i64 a1_3)).setCell ⟨go156, (tAw : Int).toNat * 2 + 1, none⟩ (.int .i64 a1_4)) w.heap.size (fun _ => True) (.slice (some ⟨go156, 0, none⟩) tAi.length co40) yBf) := ⟨by (with_reducible repeat (first | apply Kd.R_alloc | apply Kd.R_drewN | apply Kd.R_drew)); exact HQ164.out⟩
       have n2_ : Aside0 (((w163.setCell ⟨go156, (tAw : Int).toNat * 2, none⟩ (.int .i64 a1_3)).setCell ⟨go156, (tAw : Int).toNat * 2 + 1, none⟩ (.int .i64 a1_4)).heap[gbAe]? = some (.cells #[.int .i64 a0_0, .int .i64 a0_1, .int .i64 a0_2, .int .i64 a0_3, .int .i64 a0_4, .slice A0_5 l0_5.length c0_5] 24 (0, 0))) := ⟨by (with_reducible repeat (first | refine blk_drewN ?_ _ | refine blk_drew ?_ | refine blk_alloc ?_ _)); refine blk_far ?_ (by have h_ := Kd.R_ne HO_Af005.out BKAe.out (by decide); intro e_; exact h_ (by rw [e_]; rfl)) _; refine blk_far ?_ (by have h_ := Kd.R_ne HO_Af005.out BKAe.out (by decide); intro e_; exact h_ (by rw [e_]; rfl)) _; (with_reducible repeat (first | refine blk_drewN ?_ _ | refine blk_drew ?_ | refine blk_alloc ?_ _)); exact BKAe.out⟩
       have n3_ : Aside0 (((w163.setCell ⟨go156, (tAw : Int).toNat * 2, none⟩ (.int .i64 a1_3)).setCell ⟨go156, (tAw : Int).toNat * 2 + 1, none⟩ (.int .i64 a1_4)).heap[gbAd]? = some (.cells #[.int .i64 a1_0, .int .i64 a1_1, .int .i64 a1_2, .int .i64 a1_3, .int .i64 a1_4, .slice A1_5 l1_5.length c1_5] 29 (0, 0))) := ⟨by (with_reducible repeat (first | refine blk_drewN ?_ _ | refine blk_drew ?_ | refine blk_alloc ?_ _)); refine blk_far ?_ (by have h_ := Kd.R_ne HO_Af005.out BKAd.out (by decide); intro e_; exact h_ (by rw [e_]; rfl)) _; refine blk_far ?_ (by have h_ := Kd.R_ne HO_Af005.out BKAd.out (by decide); intro e_; exact h_ (by rw [e_]; rfl)) _; (with_reducible repeat (first | refine blk_drewN ?_ _ | refine blk_drew ?_ | refine blk_alloc ?_ _)); exact BKAd.out⟩
       have n4_ : Aside0 (((w163.setCell ⟨go156, (tAw : Int).toNat * 2, none⟩ (.int .i64 a1_3)).setCell ⟨go156, (tAw : Int).toNat * 2 + 1, none⟩ (.int .i64 a1_4)).heap[gbAb]? = some (.cells #[.int .i64 tAg, .int .i64 tAj, .int .i64 tAk, .int .i64 tAm, .int .i64 tAn, .slice Ao32 tAh.length co32] 24 (0, 0))) := ⟨by (with_reducible repeat (first | refine blk_drewN ?_ _ | refine blk_drew ?_ | refine blk_alloc ?_ _)); refine blk_far ?_ (by have h_ := Kd.R_ne HO_Af005.out BKAb.out (by decide); intro e_; exact h_ (by rw [e_]; rfl)) _; refine blk_far ?_ (by have h_ := Kd.R_ne HO_Af005.out BKAb.out (by decide); intro e_; exact h_ (by rw [e_]; rfl)) _; (with_reducible repeat (first | refine blk_drewN ?_ _ | refine blk_drew ?_ | refine blk_alloc ?_ _)); exact BKAb.out⟩
       have n5_ : Aside0 (((w163.setCell ⟨go156, (tAw : Int).toNat * 2, none⟩ (.int .i64 a1_3)).setCell ⟨go156, (tAw : Int).toNat * 2 + 1, none⟩ (.int .i64 a1_4)).heap[gbAa]? = some (.cells #[.int .i64 tAc, .int .i64 tAp, .int .i64 tAr, .int .i64 tAq, .int .i64 tAs, .slice (some ⟨go156, 0, none⟩) tAi.length co40] 29 (0, 0))) := ⟨by (with_reducible repeat (first | refine blk_drewN ?_ _ | refine blk_drew ?_ | refine blk_alloc ?_ _)); refine blk_far ?_ (by have h_ := Kd.R_ne HO_Af005.out BKAa.out (by decide); intro e_; exact h_ (by rw [e_]; rfl)) _; refine blk_far ?_ (by have h_ := Kd.R_ne HO_Af005.out BKAa.out (by decide); intro e_; exact h_ (by rw [e_]; rfl)) _; (with_reducible repeat (first | refine blk_drewN ?_ _ | refine blk_drew ?_ | refine blk_alloc ?_ _)); exact BKAa.out⟩
       have n6_ : Aside0 (Below w.heap.size w ((w163.setCell ⟨go156, (tAw : Int).toNat * 2, none⟩ (.int .i64 a1_3)).setCell ⟨go156, (tAw : Int).toNat * 2 + 1, none⟩ (.int .i64 a1_4))) := ⟨by repeat (first | (with_reducible first | exact HB.out | apply below_alloc | apply pw_below_drewN | apply below_drew1 | refine below_set ?_ GB156.out | refine below_set ?_ GB156.out | refine below_set ?_ GEAe.out | refine below_set ?_ GEAd.out | refine below_set ?_ GEAb.out | refine below_set ?_ GEAa.out) | exact HB.out)⟩
       (try clear HO_Ac005)
       (try clear HO_Af005)
       (try clear BKAe)
       (try clear BKAd)
       (try clear BKAb)
       (try clear BKAa)
       (try clear HB)
       generalize ((w163.setCell ⟨go156, (tAw : Int).toNat * 2, none⟩ (.int .i64 a1_3)).setCell ⟨go156, (tAw : Int).toNat * 2 + 1, none⟩ (.int .i64 a1_4)) = w165 at n0_ n1_ n2_ n3_ n4_ n5_ n6_ ⊢
       have HO_Ac005 := n0_
       have HO_Af005 := n1_
       have BKAe := n2_
       have BKAd := n3_
       have BKAb := n4_
       have BKAa := n5_
       have HB := n6_
       clear n0_ n1_ n2_ n3_ n4_ n5_ n6_
       (try (rw [drewN_self w165]; generalize hq_ : World.drewN w165 _ = w165; have n0_ : Aside0 (Kd.R (Kd.int .i64) 3 w165 w.heap.size (fun _ => True) (.slice Ao32 tAh.length co32) tAh) := ⟨by rw [← hq_]; exact (pR_ HO_Ac005.out)⟩; have n1_ : Aside0 (Kd.R k26 26 w165 w.heap.size (fun _ => True) (.slice (some ⟨go156, 0, none⟩) tAi.length co40) yBf) := ⟨by rw [← hq_]; exact (pR_ HO_Af005.out)⟩; have n2_ : Aside0 (w165.heap[gbAe]? = some (.cells #[.int .i64 a0_0, .int .i64 a0_1, .int .i64 a0_2, .int .i64 a0_3, .int .i64 a0_4, .slice A0_5 l0_5.length c0_5] 24 (0, 0))) := ⟨by rw [← hq_]; exact (pB_ BKAe.out)⟩; have n3_ : Aside0 (w165.heap[gbAd]? = some (.cells #[.int .i64 a1_0, .int .i64 a1_1, .int .i64 a1_2, .int .i64 a1_3, .int .i64 a1_4, .slice A1_5 l1_5.length c1_5] 29 (0, 0))) := ⟨by rw [← hq_]; exact (pB_ BKAd.out)⟩; have n4_ : Aside0 (w165.heap[gbAb]? = some (.cells #[.int .i64 tAg, .int .i64 tAj, .int .i64 tAk, .int .i64 tAm, .int .i64 tAn, .slice Ao32 tAh.length co32] 24 (0, 0))) := ⟨by rw [← hq_]; exact (pB_ BKAb.out)⟩; have n5_ : Aside0 (w165.heap[gbAa]? = some (.cells #[.int .i64 tAc, .int .i64 tAp, .int .i64 tAr, .int .i64 tAq, .int .i64 tAs, .slice (some ⟨go156, 0, none⟩) tAi.length co40] 29 (0, 0))) := ⟨by rw [← hq_]; exact (pB_ BKAa.out)⟩; have n6_ : Aside0 (Below w.heap.size w w165) := ⟨by rw [← hq_]; exact (pH_ HB.out)⟩; clear HO_Ac005 HO_Af005 BKAe BKAd BKAb BKAa HB hq_; have HO_Ac005 := n0_; have HO_Af005 := n1_; have BKAe := n2_; have BKAd := n3_; have BKAb := n4_; have BKAa := n5_; have HB := n6_; clear n0_ n1_ n2_ n3_ n4_ n5_ n6_))
       replace HO_Ac005 := Aside0.mk (Kd.R_drew HO_Ac005.out)
       replace HO_Af005 := Aside0.mk (Kd.R_drew HO_Af005.out)
       replace BKAe := Aside0.mk (blk_drew BKAe.out)
       replace BKAd := Aside0.mk (blk_drew BKAd.out)
       replace BKAb := Aside0.mk (blk_drew BKAb.out)
       replace BKAa := Aside0.mk (blk_drew BKAa.out)
       replace HB := Aside0.mk (below_drew1 HB.out)
       refine start_ (n := 8) (S := fun w' => w'.cell? ⟨gbAb, 0, none⟩ = some (.int .i64 tAg) ∧ w'.cell? ⟨gbAb, 1, none⟩ = some (.int .i64 tAj) ∧ w'.cell? ⟨gbAb, 2, none⟩ = some (.int .i64 tAk) ∧ w'.cell? ⟨gbAb, 3, none⟩ = some (.int .i64 tAm) ∧ w'.cell? ⟨gbAb, 4, none⟩ = some (.int .i64 tAn) ∧ w'.cell? ⟨gbAb, 5, none⟩ = some (.slice Ao32 tAh.length co32) ∧ w'.cell? ⟨gbAa, 0, none⟩ = some (.int .i64 tAc) ∧ w'.cell? ⟨gbAa, 1, none⟩ = some (.int .i64 tAp) ∧ w'.cell? ⟨gbAa, 2, none⟩ = some (.int .i64 tAr) ∧ w'.cell? ⟨gbAa, 3, none⟩ = some (.int .i64 tAq) ∧ w'.cell? ⟨gbAa, 4, none⟩ = some (.int .i64 tAs) ∧ w'.cell? ⟨gbAa, 5, none⟩ = some (.slice (some ⟨go156, 0, none⟩) tAi.length co40)) (ds := []) #[false, false, false, false, false, false, false, false] (by kernel_rfl) rfl rfl ⟨(blk_cell BKAb.out 0).trans rfl, (blk_cell BKAb.out 1).trans rfl, (blk_cell BKAb.out 2).trans rfl, (blk_cell BKAb.out 3).trans rfl, (blk_cell BKAb.out 4).trans rfl, (blk_cell BKAb.out 5).trans rfl, (blk_cell BKAa.out 0).trans rfl, (blk_cell BKAa.out 1).trans rfl, (blk_cell BKAa.out 2).trans rfl, (blk_cell BKAa.out 3).trans rfl, (blk_cell BKAa.out 4).trans rfl, (blk_cell BKAa.out 5).trans rfl⟩ (fun hHeld => ?_); refine with_tabW plaitinglaw5_FrameChecks.tab27 plaitinglaw5_FrameChecks.bits27 (fun HT_ HW_ => ?_)
       generalize w165.drew = w166 at HO_Ac005 HO_Af005 BKAe BKAd BKAb BKAa HB HQ164 hHeld ⊢
       refine tq_ 0 117 HT_ HW_ hHeld ?_
       refine tq_ 1 118 HT_ HW_ hHeld ?_
       refine tq_ 3 120 HT_ HW_ hHeld ?_
       refine tq_ 4 121 HT_ HW_ hHeld ?_
       refine oq_ 2 119 HT_ (fun K hK => ?_)
       refine goes_ Try.func22 (by kernel_rfl) rfl #[.agg #[.int .i64 tAg, .int .i64 tAj, .int .i64 tAk, .int .i64 tAm, .int .i64 tAn, .slice Ao32 tAh.length co32], .agg #[.int .i64 tAc, .int .i64 tAp, .int .i64 tAr, .int .i64 tAq, .int .i64 tAs, .slice (some ⟨go156, 0, none⟩) yBf.length co40]] (by rfl) rfl rfl (by (try simp only [List.map_toArray, List.map_cons, List.map_nil]); first | done | (rw [show yBf.length = tAi.length from (Kd.R_reads' HO_Af005.out).1.symm] <;> rfl) | rfl | (simp only [List.length_drop, List.length_take]; rfl)) ?_
       with_reducible refine (frame_Check.calls tAg tAj tAk tAm tAn _ _ tAh tAc tAp tAr tAq tAs _ _ yBf tCd _ ?side1 ?side2 ?side3 ?side4 A157.out).mono ?_
       (case side1 => exact cC_ (Kd.R_reads' HO_Ac005.out).2.2)
       (case side2 => exact (Kd.R_reads' HO_Ac005.out).2.1)
       (case side3 => exact cC_ (Kd.R_reads' HO_Af005.out).2.2)
       (case side4 => rw [show yBf.length = tAi.length from (Kd.R_reads' HO_Af005.out).1.symm]; exact (Kd.R_reads' HO_Af005.out).2.1)
       rintro e w167 ⟨rfl, hb⟩
       refine ⟨_, rfl, ?_⟩
       replace HO_Ac005 := Aside0.mk (Kd.R_below (pR_ HO_Ac005.out) hb)
       replace HO_Af005 := Aside0.mk (Kd.R_below (pR_ HO_Af005.out) hb)
       replace BKAe := Aside0.mk (blk_below (pB_ BKAe.out) hb)
       replace BKAd := Aside0.mk (blk_below (pB_ BKAd.out) hb)
       replace BKAb := Aside0.mk (blk_below (pB_ BKAb.out) hb)
       replace BKAa := Aside0.mk (blk_below (pB_ BKAa.out) hb)
       replace HB := Aside0.mk (below_step (pH_ HB.out) hb)
       (try clear hb)
       (try clear hb2)
       (try clear hk)
       (try clear hi)
       refine hK.out _ _ ⟨(blk_cell BKAb.out 0).trans rfl, (blk_cell BKAb.out 1).trans rfl, (blk_cell BKAb.out 2).trans rfl, (blk_cell BKAb.out 3).trans rfl, (blk_cell BKAb.out 4).trans rfl, (blk_cell BKAb.out 5).trans rfl, (blk_cell BKAa.out 0).trans rfl, (blk_cell BKAa.out 1).trans rfl, (blk_cell BKAa.out 2).trans rfl, (blk_cell BKAa.out 3).trans rfl, (blk_cell BKAa.out 4).trans rfl, (blk_cell BKAa.out 5).trans rfl⟩ (fun hHeld => ?_)
       clear hK K
       refine nq_ 119 ?_
       refine oq_ 5 122 HT_ (fun K hK => ?_)
       refine goes_ Try.func23 (by kernel_rfl) rfl #[.agg #[.int .i64 tAg, .int .i64 tAj, .int .i64 tAk, .int .i64 tAm, .int .i64 tAn, .slice Ao32 tAh.length co32], .agg #[.int .i64 tAc, .int .i64 tAp, .int .i64 tAr, .int .i64 tAq, .int .i64 tAs, .slice (some ⟨go156, 0, none⟩) yBf.length co40]] (by rfl) rfl rfl (by (try simp only [List.map_toArray, List.map_cons, List.map_nil]); first | done | (rw [show yBf.length = tAi.length from (Kd.R_reads' HO_Af005.out).1.symm] <;> rfl) | rfl | (simp only [List.length_drop, List.length_take]; rfl)) ?_
       with_reducible refine (plaitingref5_Check.calls kj23 tAg tAj tAk tAm tAn _ _ tAh tAc tAp tAr tAq tAs _ _ yBf tBy _ ?side1 ?side2 ?side3 ?side4 A158.out).mono ?_
       (case side1 => exact cC_ (Kd.R_reads' HO_Ac005.out).2.2)
       (case side2 => exact (Kd.R_reads' HO_Ac005.out).2.1)
       (case side3 => exact cC_ (Kd.R_reads' HO_Af005.out).2.2)
       (case side4 => rw [show yBf.length = tAi.length from (Kd.R_reads' HO_Af005.out).1.symm]; exact (Kd.R_reads' HO_Af005.out).2.1)
       rintro e w168 ⟨rfl, hb⟩
       refine ⟨_, rfl, ?_⟩
       replace HO_Ac005 := Aside0.mk (Kd.R_below (pR_ HO_Ac005.out) hb)
       replace HO_Af005 := Aside0.mk (Kd.R_below (pR_ HO_Af005.out) hb)
       replace BKAe := Aside0.mk (blk_below (pB_ BKAe.out) hb)
       replace BKAd := Aside0.mk (blk_below (pB_ BKAd.out) hb)
       replace BKAb := Aside0.mk (blk_below (pB_ BKAb.out) hb)
       replace BKAa := Aside0.mk (blk_below (pB_ BKAa.out) hb)
       replace HB := Aside0.mk (below_step (pH_ HB.out) hb)
       (try clear hb)
       (try clear hb2)
       (try clear hk)
       (try clear hi)
       refine hK.out _ _ ⟨(blk_cell BKAb.out 0).trans rfl, (blk_cell BKAb.out 1).trans rfl, (blk_cell BKAb.out 2).trans rfl, (blk_cell BKAb.out 3).trans rfl, (blk_cell BKAb.out 4).trans rfl, (blk_cell BKAb.out 5).trans rfl, (blk_cell BKAa.out 0).trans rfl, (blk_cell BKAa.out 1).trans rfl, (blk_cell BKAa.out 2).trans rfl, (blk_cell BKAa.out 3).trans rfl, (blk_cell BKAa.out 4).trans rfl, (blk_cell BKAa.out 5).trans rfl⟩ (fun hHeld => ?_)
       clear hK K
       refine nq_ 122 ?_
       refine pq_ 6 123 HT_ ?_
       refine pq_ 7 10 HT_ ?_
       refine done_ (done_of HT_.out (by kernel_rfl)) ?_
       try go_wp2
       go_ret
       exact ⟨by first | rfl | (simp [errW_none, errW_some] <;> rfl) | (simp [*, errW_none, errW_some] <;> rfl), by repeat (first | (with_reducible first | exact HB.out | apply below_alloc | apply pw_below_drewN | apply below_drew1 | refine below_set ?_ GEAe.out | refine below_set ?_ GEAd.out | refine below_set ?_ GEAb.out | refine below_set ?_ GEAa.out) | exact HB.out)⟩
      rw [if_neg c152] at H
      have c152b0 : decide (0 < (tAi.length : Int)) = false := decide_eq_false c152
      have c152b1 : decide (0 < tAi.length) = false := decide_eq_false (by omega)
      clear c152
      replace H := Option.bind_eq_some_iff.mp H
      obtain ⟨tCq, ADg, H⟩ := H
      replace H : ((plaitingref5_Check.f kj23 tAg tAj tAk tAm tAn tAh tAc tAp tAr tAq tAs tAi).bind fun tCk => (some (tCq == tCk))) = some r := H
      have A169 := Aside0.mk ADg
      clear ADg
      replace H := Option.bind_eq_some_iff.mp H
      obtain ⟨tCk, ADh, H⟩ := H
      replace H : (some (tCq == tCk)) = some r := H
      have A170 := Aside0.mk ADh
      clear ADh
      obtain rfl := Option.some.inj H
      try go_wp2_with (first | ((with_reducible refine gate_callee (f := 24) rfl ?_); refine gL_ 44 Try.func24 #[.int .i64 a3, .int .i64 8] ?_; (with_reducible refine (plaitinglaw5_within.calls a3 8 tAt _ A55.out).mono ?_); rintro e w' ⟨rfl, ⟨nd, rfl⟩⟩; refine ⟨_, rfl, ?_⟩; have hnb171 := NBAa_Ae.out; have hnc171 := NBAe_Aa.out; have hnb172 := NBAa_Ad.out; have hnc172 := NBAd_Aa.out; have hnb173 := NBAa_Ab.out; have hnc173 := NBAb_Aa.out; have hcz174_0 : wc.cell? ⟨gbAa, 0, none⟩ = some (.int .i64 tAc) := (blk_cell BKAa.out 0).trans rfl; have hcz174_1 : wc.cell? ⟨gbAa, 1, none⟩ = some (.int .i64 tAp) := (blk_cell BKAa.out 1).trans rfl; have hcz174_2 : wc.cell? ⟨gbAa, 2, none⟩ = some (.int .i64 tAr) := (blk_cell BKAa.out 2).trans rfl; have hcz174_3 : wc.cell? ⟨gbAa, 3, none⟩ = some (.int .i64 tAq) := (blk_cell BKAa.out 3).trans rfl; have hcz174_4 : wc.cell? ⟨gbAa, 4, none⟩ = some (.int .i64 tAs) := (blk_cell BKAa.out 4).trans rfl; have hcz174_5 : wc.cell? ⟨gbAa, 5, none⟩ = some (.slice Ao40 tAi.length co40) := (blk_cell BKAa.out 5).trans rfl; have hfz174_0 := blk_frozen BKAa.out 0; have hfz174_1 := blk_frozen BKAa.out 1; have hfz174_2 := blk_frozen BKAa.out 2; have hfz174_3 := blk_frozen BKAa.out 3; have hfz174_4 := blk_frozen BKAa.out 4; have hfz174_5 := blk_frozen BKAa.out 5))
      (try (rw [drewN_self wc]; generalize hq_ : World.drewN wc _ = wc; have n0_ : Aside0 (Kd.R (Kd.int .i64) 3 wc w.heap.size (fun _ => True) (.slice Ao32 tAh.length co32) tAh) := ⟨by rw [← hq_]; exact (pR_ HO_Ac005.out)⟩; have n1_ : Aside0 (Kd.R k26 26 wc w.heap.size (fun _ => True) (.slice Ao40 tAi.length co40) tAi) := ⟨by rw [← hq_]; exact (pR_ HO_Af005.out)⟩; have n2_ : Aside0 (wc.heap[gbAe]? = some (.cells #[.int .i64 a0_0, .int .i64 a0_1, .int .i64 a0_2, .int .i64 a0_3, .int .i64 a0_4, .slice A0_5 l0_5.length c0_5] 24 (0, 0))) := ⟨by rw [← hq_]; exact (pB_ BKAe.out)⟩; have n3_ : Aside0 (wc.heap[gbAd]? = some (.cells #[.int .i64 a1_0, .int .i64 a1_1, .int .i64 a1_2, .int .i64 a1_3, .int .i64 a1_4, .slice A1_5 l1_5.length c1_5] 29 (0, 0))) := ⟨by rw [← hq_]; exact (pB_ BKAd.out)⟩; have n4_ : Aside0 (wc.heap[gbAb]? = some (.cells #[.int .i64 tAg, .int .i64 tAj, .int .i64 tAk, .int .i64 tAm, .int .i64 tAn, .slice Ao32 tAh.length co32] 24 (0, 0))) := ⟨by rw [← hq_]; exact (pB_ BKAb.out)⟩; have n5_ : Aside0 (wc.heap[gbAa]? = some (.cells #[.int .i64 tAc, .int .i64 tAp, .int .i64 tAr, .int .i64 tAq, .int .i64 tAs, .slice Ao40 tAi.length co40] 29 (0, 0))) := ⟨by rw [← hq_]; exact (pB_ BKAa.out)⟩; have n6_ : Aside0 (Below w.heap.size w wc) := ⟨by rw [← hq_]; exact (pH_ HB.out)⟩; clear HO_Ac005 HO_Af005 BKAe BKAd BKAb BKAa HB hq_; have HO_Ac005 := n0_; have HO_Af005 := n1_; have BKAe := n2_; have BKAd := n3_; have BKAb := n4_; have BKAa := n5_; have HB := n6_; clear n0_ n1_ n2_ n3_ n4_ n5_ n6_))
      replace HO_Ac005 := Aside0.mk (Kd.R_drew HO_Ac005.out)
      replace HO_Af005 := Aside0.mk (Kd.R_drew HO_Af005.out)
      replace BKAe := Aside0.mk (blk_drew BKAe.out)
      replace BKAd := Aside0.mk (blk_drew BKAd.out)
      replace BKAb := Aside0.mk (blk_drew BKAb.out)
      replace BKAa := Aside0.mk (blk_drew BKAa.out)
      replace HB := Aside0.mk (below_drew1 HB.out)
      refine start_ (n := 8) (S := fun w' => w'.cell? ⟨gbAb, 0, none⟩ = some (.int .i64 tAg) ∧ w'.cell? ⟨gbAb, 1, none⟩ = some (.int .i64 tAj) ∧ w'.cell? ⟨gbAb, 2, none⟩ = some (.int .i64 tAk) ∧ w'.cell? ⟨gbAb, 3, none⟩ = some (.int .i64 tAm) ∧ w'.cell? ⟨gbAb, 4, none⟩ = some (.int .i64 tAn) ∧ w'.cell? ⟨gbAb, 5, none⟩ = some (.slice Ao32 tAh.length co32) ∧ w'.cell? ⟨gbAa, 0, none⟩ = some (.int .i64 tAc) ∧ w'.cell? ⟨gbAa, 1, none⟩ = some (.int .i64 tAp) ∧ w'.cell? ⟨gbAa, 2, none⟩ = some (.int .i64 tAr) ∧ w'.cell? ⟨gbAa, 3, none⟩ = some (.int .i64 tAq) ∧ w'.cell? ⟨gbAa, 4, none⟩ = some (.int .i64 tAs) ∧ w'.cell? ⟨gbAa, 5, none⟩ = some (.slice Ao40 tAi.length co40)) (ds := []) #[false, false, false, false, false, false, false, false] (by kernel_rfl) rfl rfl ⟨(blk_cell BKAb.out 0).trans rfl, (blk_cell BKAb.out 1).trans rfl, (blk_cell BKAb.out 2).trans rfl, (blk_cell BKAb.out 3).trans rfl, (blk_cell BKAb.out 4).trans rfl, (blk_cell BKAb.out 5).trans rfl, (blk_cell BKAa.out 0).trans rfl, (blk_cell BKAa.out 1).trans rfl, (blk_cell BKAa.out 2).trans rfl, (blk_cell BKAa.out 3).trans rfl, (blk_cell BKAa.out 4).trans rfl, (blk_cell BKAa.out 5).trans rfl⟩ (fun hHeld => ?_); refine with_tabW plaitinglaw5_FrameChecks.tab27 plaitinglaw5_FrameChecks.bits27 (fun HT_ HW_ => ?_)
      generalize wc.drew = w175 at HO_Ac005 HO_Af005 BKAe BKAd BKAb BKAa HB hHeld ⊢
      refine tq_ 0 117 HT_ HW_ hHeld ?_
      refine tq_ 1 118 HT_ HW_ hHeld ?_
      refine tq_ 3 120 HT_ HW_ hHeld ?_
      refine tq_ 4 121 HT_ HW_ hHeld ?_
      refine oq_ 2 119 HT_ (fun K hK => ?_)
      refine gs_ Try.func22 #[.agg #[.int .i64 tAg, .int .i64 tAj, .int .i64 tAk, .int .i64 tAm, .int .i64 tAn, .slice Ao32 tAh.length co32], .agg #[.int .i64 tAc, .int .i64 tAp, .int .i64 tAr, .int .i64 tAq, .int .i64 tAs, .slice Ao40 tAi.length co40]] ?_
      with_reducible refine (frame_Check.calls tAg tAj tAk tAm tAn _ _ tAh tAc tAp tAr tAq tAs _ _ tAi tCq _ ?side1 ?side2 ?side3 ?side4 A169.out).mono ?_
      (case side1 => exact cC_ (Kd.R_reads' HO_Ac005.out).2.2)
      (case side2 => exact (Kd.R_reads' HO_Ac005.out).2.1)
      (case side3 => exact cC_ (Kd.R_reads' HO_Af005.out).2.2)
      (case side4 => exact (Kd.R_reads' HO_Af005.out).2.1)
      rintro e w176 ⟨rfl, hb⟩
      refine ⟨_, rfl, ?_⟩
      replace HO_Ac005 := Aside0.mk (Kd.R_below (pR_ HO_Ac005.out) hb)
      replace HO_Af005 := Aside0.mk (Kd.R_below (pR_ HO_Af005.out) hb)
      replace BKAe := Aside0.mk (blk_below (pB_ BKAe.out) hb)
      replace BKAd := Aside0.mk (blk_below (pB_ BKAd.out) hb)
      replace BKAb := Aside0.mk (blk_below (pB_ BKAb.out) hb)
      replace BKAa := Aside0.mk (blk_below (pB_ BKAa.out) hb)
      replace HB := Aside0.mk (below_step (pH_ HB.out) hb)
      (try clear hb)
      (try clear hb2)
      (try clear hk)
      (try clear hi)
      refine hK.out _ _ ⟨(blk_cell BKAb.out 0).trans rfl, (blk_cell BKAb.out 1).trans rfl, (blk_cell BKAb.out 2).trans rfl, (blk_cell BKAb.out 3).trans rfl, (blk_cell BKAb.out 4).trans rfl, (blk_cell BKAb.out 5).trans rfl, (blk_cell BKAa.out 0).trans rfl, (blk_cell BKAa.out 1).trans rfl, (blk_cell BKAa.out 2).trans rfl, (blk_cell BKAa.out 3).trans rfl, (blk_cell BKAa.out 4).trans rfl, (blk_cell BKAa.out 5).trans rfl⟩ (fun hHeld => ?_)
      clear hK K
      refine nq_ 119 ?_
      refine oq_ 5 122 HT_ (fun K hK => ?_)
      refine gs_ Try.func23 #[.agg #[.int .i64 tAg, .int .i64 tAj, .int .i64 tAk, .int .i64 tAm, .int .i64 tAn, .slice Ao32 tAh.length co32], .agg #[.int .i64 tAc, .int .i64 tAp, .int .i64 tAr, .int .i64 tAq, .int .i64 tAs, .slice Ao40 tAi.length co40]] ?_
      with_reducible refine (plaitingref5_Check.calls kj23 tAg tAj tAk tAm tAn _ _ tAh tAc tAp tAr tAq tAs _ _ tAi tCk _ ?side1 ?side2 ?side3 ?side4 A170.out).mono ?_
      (case side1 => exact cC_ (Kd.R_reads' HO_Ac005.out).2.2)
      (case side2 => exact (Kd.R_reads' HO_Ac005.out).2.1)
      (case side3 => exact cC_ (Kd.R_reads' HO_Af005.out).2.2)
      (case side4 => exact (Kd.R_reads' HO_Af005.out).2.1)
      rintro e w177 ⟨rfl, hb⟩
      refine ⟨_, rfl, ?_⟩
      replace HO_Ac005 := Aside0.mk (Kd.R_below (pR_ HO_Ac005.out) hb)
      replace HO_Af005 := Aside0.mk (Kd.R_below (pR_ HO_Af005.out) hb)
      replace BKAe := Aside0.mk (blk_below (pB_ BKAe.out) hb)
      replace BKAd := Aside0.mk (blk_below (pB_ BKAd.out) hb)
      replace BKAb := Aside0.mk (blk_below (pB_ BKAb.out) hb)
      replace BKAa := Aside0.mk (blk_below (pB_ BKAa.out) hb)
      replace HB := Aside0.mk (below_step (pH_ HB.out) hb)
      (try clear hb)
      (try clear hb2)
      (try clear hk)
      (try clear hi)
      refine hK.out _ _ ⟨(blk_cell BKAb.out 0).trans rfl, (blk_cell BKAb.out 1).trans rfl, (blk_cell BKAb.out 2).trans rfl, (blk_cell BKAb.out 3).trans rfl, (blk_cell BKAb.out 4).trans rfl, (blk_cell BKAb.out 5).trans rfl, (blk_cell BKAa.out 0).trans rfl, (blk_cell BKAa.out 1).trans rfl, (blk_cell BKAa.out 2).trans rfl, (blk_cell BKAa.out 3).trans rfl, (blk_cell BKAa.out 4).trans rfl, (blk_cell BKAa.out 5).trans rfl⟩ (fun hHeld => ?_)
      clear hK K
      refine nq_ 122 ?_
      refine pq_ 6 123 HT_ ?_
      refine pq_ 7 10 HT_ ?_
      refine done_ (done_of HT_.out (by kernel_rfl)) ?_
      try go_wp2
      go_ret
      exact ⟨by first | rfl | (simp [errW_none, errW_some] <;> rfl) | (simp [*, errW_none, errW_some] <;> rfl), by repeat (first | (with_reducible first | exact HB.out | apply below_alloc | apply pw_below_drewN | apply below_drew1 | refine below_set ?_ GEAe.out | refine below_set ?_ GEAd.out | refine below_set ?_ GEAb.out | refine below_set ?_ GEAa.out) | exact HB.out)⟩
     rw [if_neg c151] at H
     have c151b0 : (tAt == 6) = false := beq_eq_false_iff_ne.mpr c151
     have c151b1 : (tAt != 6) = true := bne_iff_ne.mpr c151
     by_cases c178 : tAt = 7
     ·
      rw [if_pos c178] at H
      have c178b0 : (tAt == 7) = true := beq_iff_eq.mpr c178
      have c178b1 : (tAt != 7) = false := bne_eq_false_iff_eq.mpr c178
      clear c178
      replace H := Option.bind_eq_some_iff.mp H
      obtain ⟨tCr, ADi, H⟩ := H
      replace H : ((plaitingref5_Check.f kj23 tAg tAj tAk tAm tAn tAh tAc tAp tAr tAq tAs ([] : List (S26))).bind fun tCm => (some (tCr == tCm))) = some r := H
      have A179 := Aside0.mk ADi
      clear ADi
      replace H := Option.bind_eq_some_iff.mp H
      obtain ⟨tCm, ADj, H⟩ := H
      replace H : (some (tCr == tCm)) = some r := H
      have A180 := Aside0.mk ADj
      clear ADj
      obtain rfl := Option.some.inj H
      try go_wp2_with (first | ((with_reducible refine gate_callee (f := 24) rfl ?_); refine gL_ 44 Try.func24 #[.int .i64 a3, .int .i64 8] ?_; (with_reducible refine (plaitinglaw5_within.calls a3 8 tAt _ A55.out).mono ?_); rintro e w' ⟨rfl, ⟨nd, rfl⟩⟩; refine ⟨_, rfl, ?_⟩; (try (rw [drewN_self wc]; generalize hq_ : World.drewN wc _ = wc; have n0_ : Aside0 (Kd.R (Kd.int .i64) 3 wc w.heap.size (fun _ => True) (.slice Ao32 tAh.length co32) tAh) := ⟨by rw [← hq_]; exact (pR_ HO_Ac005.out)⟩; have n1_ : Aside0 (Kd.R k26 26 wc w.heap.size (fun _ => True) (.slice Ao40 tAi.length co40) tAi) := ⟨by rw [← hq_]; exact (pR_ HO_Af005.out)⟩; have n2_ : Aside0 (wc.heap[gbAe]? = some (.cells #[.int .i64 a0_0, .int .i64 a0_1, .int .i64 a0_2, .int .i64 a0_3, .int .i64 a0_4, .slice A0_5 l0_5.length c0_5] 24 (0, 0))) := ⟨by rw [← hq_]; exact (pB_ BKAe.out)⟩; have n3_ : Aside0 (wc.heap[gbAd]? = some (.cells #[.int .i64 a1_0, .int .i64 a1_1, .int .i64 a1_2, .int .i64 a1_3, .int .i64 a1_4, .slice A1_5 l1_5.length c1_5] 29 (0, 0))) := ⟨by rw [← hq_]; exact (pB_ BKAd.out)⟩; have n4_ : Aside0 (wc.heap[gbAb]? = some (.cells #[.int .i64 tAg, .int .i64 tAj, .int .i64 tAk, .int .i64 tAm, .int .i64 tAn, .slice Ao32 tAh.length co32] 24 (0, 0))) := ⟨by rw [← hq_]; exact (pB_ BKAb.out)⟩; have n5_ : Aside0 (wc.heap[gbAa]? = some (.cells #[.int .i64 tAc, .int .i64 tAp, .int .i64 tAr, .int .i64 tAq, .int .i64 tAs, .slice Ao40 tAi.length co40] 29 (0, 0))) := ⟨by rw [← hq_]; exact (pB_ BKAa.out)⟩; have n6_ : Aside0 (Below w.heap.size w wc) := ⟨by rw [← hq_]; exact (pH_ HB.out)⟩; clear HO_Ac005 HO_Af005 BKAe BKAd BKAb BKAa HB hq_; have HO_Ac005 := n0_; have HO_Af005 := n1_; have BKAe := n2_; have BKAd := n3_; have BKAb := n4_; have BKAa := n5_; have HB := n6_; clear n0_ n1_ n2_ n3_ n4_ n5_ n6_)); have hnb181 := NBAa_Ae.out; have hnc181 := NBAe_Aa.out; have hnb182 := NBAa_Ad.out; have hnc182 := NBAd_Aa.out; have hnb183 := NBAa_Ab.out; have hnc183 := NBAb_Aa.out; have hcz184_0 : wc.cell? ⟨gbAa, 0, none⟩ = some (.int .i64 tAc) := (blk_cell BKAa.out 0).trans rfl; have hcz184_1 : wc.cell? ⟨gbAa, 1, none⟩ = some (.int .i64 tAp) := (blk_cell BKAa.out 1).trans rfl; have hcz184_2 : wc.cell? ⟨gbAa, 2, none⟩ = some (.int .i64 tAr) := (blk_cell BKAa.out 2).trans rfl; have hcz184_3 : wc.cell? ⟨gbAa, 3, none⟩ = some (.int .i64 tAq) := (blk_cell BKAa.out 3).trans rfl; have hcz184_4 : wc.cell? ⟨gbAa, 4, none⟩ = some (.int .i64 tAs) := (blk_cell BKAa.out 4).trans rfl; have hcz184_5 : wc.cell? ⟨gbAa, 5, none⟩ = some (.slice Ao40 tAi.length co40) := (blk_cell BKAa.out 5).trans rfl; have hfz184_0 := blk_frozen BKAa.out 0; have hfz184_1 := blk_frozen BKAa.out 1; have hfz184_2 := blk_frozen BKAa.out 2; have hfz184_3 := blk_frozen BKAa.out 3; have hfz184_4 := blk_frozen BKAa.out 4; have hfz184_5 := blk_frozen BKAa.out 5))
      have n0_ : Aside0 (Kd.R (Kd.int .i64) 3 (wc.setCell ⟨gbAa, 5, none⟩ (.slice none 0 0)) w.heap.size (fun _ => True) (.slice Ao32 tAh.length co32) tAh) := ⟨by (with_reducible repeat (first | apply Kd.R_alloc | apply Kd.R_drewN | apply Kd.R_drew)); exact Kd.R_mono (Kd.R_far (p := ⟨gbAa, 5, none⟩) (Kd.R_types HO_Ac005.out BKAa.out (by decide)) (fun _ hk => hk.2) (.slice none 0 0)) (fun _ hk => trivial)⟩
      have n1_ : Aside0 (Kd.R k26 26 (wc.setCell ⟨gbAa, 5, none⟩ (.slice none 0 0)) w.heap.size (fun _ => True) (.slice Ao40 tAi.length co40) tAi) := ⟨by (with_reducible repeat (first | apply Kd.R_alloc | apply Kd.R_drewN | apply Kd.R_drew)); exact Kd.R_mono (Kd.R_far (p := ⟨gbAa, 5, none⟩) (Kd.R_types HO_Af005.out BKAa.out (by decide)) (fun _ hk => hk.2) (.slice none 0 0)) (fun _ hk => trivial)⟩
      have n2_ : Aside0 ((wc.setCell ⟨gbAa, 5, none⟩ (.slice none 0 0)).heap[gbAe]? = some (.cells #[.int .i64 a0_0, .int .i64 a0_1, .int .i64 a0_2, .int .i64 a0_3, .int .i64 a0_4, .slice A0_5 l0_5.length c0_5] 24 (0, 0))) := ⟨by (with_reducible repeat (first | refine blk_drewN ?_ _ | refine blk_drew ?_ | refine blk_alloc ?_ _)); refine blk_far ?_ NBAe_Aa.out _; (with_reducible repeat (first | refine blk_drewN ?_ _ | refine blk_drew ?_ | refine blk_alloc ?_ _)); exact BKAe.out⟩
      have n3_ : Aside0 ((wc.setCell ⟨gbAa, 5, none⟩ (.slice none 0 0)).heap[gbAd]? = some (.cells #[.int .i64 a1_0, .int .i64 a1_1, .int .i64 a1_2, .int .i64 a1_3, .int .i64 a1_4, .slice A1_5 l1_5.length c1_5] 29 (0, 0))) := ⟨by (with_reducible repeat (first | refine blk_drewN ?_ _ | refine blk_drew ?_ | refine blk_alloc ?_ _)); refine blk_far ?_ NBAd_Aa.out _; (with_reducible repeat (first | refine blk_drewN ?_ _ | refine blk_drew ?_ | refine blk_alloc ?_ _)); exact BKAd.out⟩
      have n4_ : Aside0 ((wc.setCell ⟨gbAa, 5, none⟩ (.slice none 0 0)).heap[gbAb]? = some (.cells #[.int .i64 tAg, .int .i64 tAj, .int .i64 tAk, .int .i64 tAm, .int .i64 tAn, .slice Ao32 tAh.length co32] 24 (0, 0))) := ⟨by (with_reducible repeat (first | refine blk_drewN ?_ _ | refine blk_drew ?_ | refine blk_alloc ?_ _)); refine blk_far ?_ NBAb_Aa.out _; (with_reducible repeat (first | refine blk_drewN ?_ _ | refine blk_drew ?_ | refine blk_alloc ?_ _)); exact BKAb.out⟩
      have n5_ : Aside0 ((wc.setCell ⟨gbAa, 5, none⟩ (.slice none 0 0)).heap[gbAa]? = some (.cells #[.int .i64 tAc, .int .i64 tAp, .int .i64 tAr, .int .i64 tAq, .int .i64 tAs, .slice none 0 0] 29 (0, 0))) := ⟨by (with_reducible repeat (first | refine blk_drewN ?_ _ | refine blk_drew ?_ | refine blk_alloc ?_ _)); refine blk_put (cs := #[.int .i64 tAc, .int .i64 tAp, .int .i64 tAr, .int .i64 tAq, .int .i64 tAs, .slice Ao40 tAi.length co40]) ?_ 5 _ rfl; (with_reducible repeat (first | refine blk_drewN ?_ _ | refine blk_drew ?_ | refine blk_alloc ?_ _)); exact BKAa.out⟩
      have n6_ : Aside0 (Below w.heap.size w (wc.setCell ⟨gbAa, 5, none⟩ (.slice none 0 0))) := ⟨by repeat (first | (with_reducible first | exact HB.out | apply below_alloc | apply pw_below_drewN | apply below_drew1 | refine below_set ?_ GEAe.out | refine below_set ?_ GEAd.out | refine below_set ?_ GEAb.out | refine below_set ?_ GEAa.out) | exact HB.out)⟩
      (try clear HO_Ac005)
      (try clear HO_Af005)
      (try clear BKAe)
      (try clear BKAd)
      (try clear BKAb)
      (try clear BKAa)
      (try clear HB)
      generalize (wc.setCell ⟨gbAa, 5, none⟩ (.slice none 0 0)) = w185 at n0_ n1_ n2_ n3_ n4_ n5_ n6_ ⊢
      have HO_Ac005 := n0_
      have HO_Af005 := n1_
      have BKAe := n2_
      have BKAd := n3_
      have BKAb := n4_
      have BKAa := n5_
      have HB := n6_
      clear n0_ n1_ n2_ n3_ n4_ n5_ n6_
      replace HO_Ac005 := Aside0.mk (Kd.R_drew HO_Ac005.out)
      replace HO_Af005 := Aside0.mk (Kd.R_drew HO_Af005.out)
      replace BKAe := Aside0.mk (blk_drew BKAe.out)
      replace BKAd := Aside0.mk (blk_drew BKAd.out)
      replace BKAb := Aside0.mk (blk_drew BKAb.out)
      replace BKAa := Aside0.mk (blk_drew BKAa.out)
      replace HB := Aside0.mk (below_drew1 HB.out)
      refine start_ (n := 8) (S := fun w' => w'.cell? ⟨gbAb, 0, none⟩ = some (.int .i64 tAg) ∧ w'.cell? ⟨gbAb, 1, none⟩ = some (.int .i64 tAj) ∧ w'.cell? ⟨gbAb, 2, none⟩ = some (.int .i64 tAk) ∧ w'.cell? ⟨gbAb, 3, none⟩ = some (.int .i64 tAm) ∧ w'.cell? ⟨gbAb, 4, none⟩ = some (.int .i64 tAn) ∧ w'.cell? ⟨gbAb, 5, none⟩ = some (.slice Ao32 tAh.length co32) ∧ w'.cell? ⟨gbAa, 0, none⟩ = some (.int .i64 tAc) ∧ w'.cell? ⟨gbAa, 1, none⟩ = some (.int .i64 tAp) ∧ w'.cell? ⟨gbAa, 2, none⟩ = some (.int .i64 tAr) ∧ w'.cell? ⟨gbAa, 3, none⟩ = some (.int .i64 tAq) ∧ w'.cell? ⟨gbAa, 4, none⟩ = some (.int .i64 tAs) ∧ w'.cell? ⟨gbAa, 5, none⟩ = some (.slice none 0 0)) (ds := []) #[false, false, false, false, false, false, false, false] (by kernel_rfl) rfl rfl ⟨(blk_cell BKAb.out 0).trans rfl, (blk_cell BKAb.out 1).trans rfl, (blk_cell BKAb.out 2).trans rfl, (blk_cell BKAb.out 3).trans rfl, (blk_cell BKAb.out 4).trans rfl, (blk_cell BKAb.out 5).trans rfl, (blk_cell BKAa.out 0).trans rfl, (blk_cell BKAa.out 1).trans rfl, (blk_cell BKAa.out 2).trans rfl, (blk_cell BKAa.out 3).trans rfl, (blk_cell BKAa.out 4).trans rfl, (blk_cell BKAa.out 5).trans rfl⟩ (fun hHeld => ?_); refine with_tabW plaitinglaw5_FrameChecks.tab27 plaitinglaw5_FrameChecks.bits27 (fun HT_ HW_ => ?_)
      generalize w185.drew = w186 at HO_Ac005 HO_Af005 BKAe BKAd BKAb BKAa HB hHeld ⊢
      refine tq_ 0 117 HT_ HW_ hHeld ?_
      refine tq_ 1 118 HT_ HW_ hHeld ?_
      refine tq_ 3 120 HT_ HW_ hHeld ?_
      refine tq_ 4 121 HT_ HW_ hHeld ?_
      refine oq_ 2 119 HT_ (fun K hK => ?_)
      refine gs_ Try.func22 #[.agg #[.int .i64 tAg, .int .i64 tAj, .int .i64 tAk, .int .i64 tAm, .int .i64 tAn, .slice Ao32 tAh.length co32], .agg #[.int .i64 tAc, .int .i64 tAp, .int .i64 tAr, .int .i64 tAq, .int .i64 tAs, .slice none 0 0]] ?_
      refine (frame_Check.calls tAg tAj tAk tAm tAn _ _ tAh tAc tAp tAr tAq tAs _ _ ([] : List (S26)) tCr _ ?side1 ?side2 ?side3 ?side4 A179.out).mono ?_
      (case side1 => exact cC_ (Kd.R_reads' HO_Ac005.out).2.2)
      (case side2 => exact (Kd.R_reads' HO_Ac005.out).2.1)
      (case side3 => exact Kd.C_nil _ _)
      (case side4 => exact Nat.le_refl _)
      rintro e w187 ⟨rfl, hb⟩
      refine ⟨_, rfl, ?_⟩
      replace HO_Ac005 := Aside0.mk (Kd.R_below (pR_ HO_Ac005.out) hb)
      replace HO_Af005 := Aside0.mk (Kd.R_below (pR_ HO_Af005.out) hb)
      replace BKAe := Aside0.mk (blk_below (pB_ BKAe.out) hb)
      replace BKAd := Aside0.mk (blk_below (pB_ BKAd.out) hb)
      replace BKAb := Aside0.mk (blk_below (pB_ BKAb.out) hb)
      replace BKAa := Aside0.mk (blk_below (pB_ BKAa.out) hb)
      replace HB := Aside0.mk (below_step (pH_ HB.out) hb)
      (try clear hb)
      (try clear hb2)
      (try clear hk)
      (try clear hi)
      refine hK.out _ _ ⟨(blk_cell BKAb.out 0).trans rfl, (blk_cell BKAb.out 1).trans rfl, (blk_cell BKAb.out 2).trans rfl, (blk_cell BKAb.out 3).trans rfl, (blk_cell BKAb.out 4).trans rfl, (blk_cell BKAb.out 5).trans rfl, (blk_cell BKAa.out 0).trans rfl, (blk_cell BKAa.out 1).trans rfl, (blk_cell BKAa.out 2).trans rfl, (blk_cell BKAa.out 3).trans rfl, (blk_cell BKAa.out 4).trans rfl, (blk_cell BKAa.out 5).trans rfl⟩ (fun hHeld => ?_)
      clear hK K
      refine nq_ 119 ?_
      refine oq_ 5 122 HT_ (fun K hK => ?_)
      refine gs_ Try.func23 #[.agg #[.int .i64 tAg, .int .i64 tAj, .int .i64 tAk, .int .i64 tAm, .int .i64 tAn, .slice Ao32 tAh.length co32], .agg #[.int .i64 tAc, .int .i64 tAp, .int .i64 tAr, .int .i64 tAq, .int .i64 tAs, .slice none 0 0]] ?_
      refine (plaitingref5_Check.calls kj23 tAg tAj tAk tAm tAn _ _ tAh tAc tAp tAr tAq tAs _ _ ([] : List (S26)) tCm _ ?side1 ?side2 ?side3 ?side4 A180.out).mono ?_
      (case side1 => exact cC_ (Kd.R_reads' HO_Ac005.out).2.2)
      (case side2 => exact (Kd.R_reads' HO_Ac005.out).2.1)
      (case side3 => exact Kd.C_nil _ _)
      (case side4 => exact Nat.le_refl _)
      rintro e w188 ⟨rfl, hb⟩
      refine ⟨_, rfl, ?_⟩
      replace HO_Ac005 := Aside0.mk (Kd.R_below (pR_ HO_Ac005.out) hb)
      replace HO_Af005 := Aside0.mk (Kd.R_below (pR_ HO_Af005.out) hb)
      replace BKAe := Aside0.mk (blk_below (pB_ BKAe.out) hb)
      replace BKAd := Aside0.mk (blk_below (pB_ BKAd.out) hb)
      replace BKAb := Aside0.mk (blk_below (pB_ BKAb.out) hb)
      replace BKAa := Aside0.mk (blk_below (pB_ BKAa.out) hb)
      replace HB := Aside0.mk (below_step (pH_ HB.out) hb)
      (try clear hb)
      (try clear hb2)
      (try clear hk)
      (try clear hi)
      refine hK.out _ _ ⟨(blk_cell BKAb.out 0).trans rfl, (blk_cell BKAb.out 1).trans rfl, (blk_cell BKAb.out 2).trans rfl, (blk_cell BKAb.out 3).trans rfl, (blk_cell BKAb.out 4).trans rfl, (blk_cell BKAb.out 5).trans rfl, (blk_cell BKAa.out 0).trans rfl, (blk_cell BKAa.out 1).trans rfl, (blk_cell BKAa.out 2).trans rfl, (blk_cell BKAa.out 3).trans rfl, (blk_cell BKAa.out 4).trans rfl, (blk_cell BKAa.out 5).trans rfl⟩ (fun hHeld => ?_)
      clear hK K
      refine nq_ 122 ?_
      refine pq_ 6 123 HT_ ?_
      refine pq_ 7 10 HT_ ?_
      refine done_ (done_of HT_.out (by kernel_rfl)) ?_
      try go_wp2
      go_ret
      exact ⟨by first | rfl | (simp [errW_none, errW_some] <;> rfl) | (simp [*, errW_none, errW_some] <;> rfl), by repeat (first | (with_reducible first | exact HB.out | apply below_alloc | apply pw_below_drewN | apply below_drew1 | refine below_set ?_ GEAe.out | refine below_set ?_ GEAd.out | refine below_set ?_ GEAb.out | refine below_set ?_ GEAa.out) | exact HB.out)⟩
     rw [if_neg c178] at H
     have c178b0 : (tAt == 7) = false := beq_eq_false_iff_ne.mpr c178
     have c178b1 : (tAt != 7) = true := bne_iff_ne.mpr c178
     replace H := Option.bind_eq_some_iff.mp H
     obtain ⟨tCs, ADk, H⟩ := H
     replace H : ((plaitingref5_Check.f kj23 tAg tAj tAk tAm tAn tAh tAc tAp tAr tAq tAs tAi).bind fun tCn => (some (tCs == tCn))) = some r := H
     have A189 := Aside0.mk ADk
     clear ADk
     replace H := Option.bind_eq_some_iff.mp H
     obtain ⟨tCn, ADm, H⟩ := H
     replace H : (some (tCs == tCn)) = some r := H
     have A190 := Aside0.mk ADm
     clear ADm
     obtain rfl := Option.some.inj H
     try go_wp2_with (first | ((with_reducible refine gate_callee (f := 24) rfl ?_); refine gL_ 44 Try.func24 #[.int .i64 a3, .int .i64 8] ?_; (with_reducible refine (plaitinglaw5_within.calls a3 8 tAt _ A55.out).mono ?_); rintro e w' ⟨rfl, ⟨nd, rfl⟩⟩; refine ⟨_, rfl, ?_⟩))
     (try (rw [drewN_self wc]; generalize hq_ : World.drewN wc _ = wc; have n0_ : Aside0 (Kd.R (Kd.int .i64) 3 wc w.heap.size (fun _ => True) (.slice Ao32 tAh.length co32) tAh) := ⟨by rw [← hq_]; exact (pR_ HO_Ac005.out)⟩; have n1_ : Aside0 (Kd.R k26 26 wc w.heap.size (fun _ => True) (.slice Ao40 tAi.length co40) tAi) := ⟨by rw [← hq_]; exact (pR_ HO_Af005.out)⟩; have n2_ : Aside0 (wc.heap[gbAe]? = some (.cells #[.int .i64 a0_0, .int .i64 a0_1, .int .i64 a0_2, .int .i64 a0_3, .int .i64 a0_4, .slice A0_5 l0_5.length c0_5] 24 (0, 0))) := ⟨by rw [← hq_]; exact (pB_ BKAe.out)⟩; have n3_ : Aside0 (wc.heap[gbAd]? = some (.cells #[.int .i64 a1_0, .int .i64 a1_1, .int .i64 a1_2, .int .i64 a1_3, .int .i64 a1_4, .slice A1_5 l1_5.length c1_5] 29 (0, 0))) := ⟨by rw [← hq_]; exact (pB_ BKAd.out)⟩; have n4_ : Aside0 (wc.heap[gbAb]? = some (.cells #[.int .i64 tAg, .int .i64 tAj, .int .i64 tAk, .int .i64 tAm, .int .i64 tAn, .slice Ao32 tAh.length co32] 24 (0, 0))) := ⟨by rw [← hq_]; exact (pB_ BKAb.out)⟩; have n5_ : Aside0 (wc.heap[gbAa]? = some (.cells #[.int .i64 tAc, .int .i64 tAp, .int .i64 tAr, .int .i64 tAq, .int .i64 tAs, .slice Ao40 tAi.length co40] 29 (0, 0))) := ⟨by rw [← hq_]; exact (pB_ BKAa.out)⟩; have n6_ : Aside0 (Below w.heap.size w wc) := ⟨by rw [← hq_]; exact (pH_ HB.out)⟩; clear HO_Ac005 HO_Af005 BKAe BKAd BKAb BKAa HB hq_; have HO_Ac005 := n0_; have HO_Af005 := n1_; have BKAe := n2_; have BKAd := n3_; have BKAb := n4_; have BKAa := n5_; have HB := n6_; clear n0_ n1_ n2_ n3_ n4_ n5_ n6_))
     replace HO_Ac005 := Aside0.mk (Kd.R_drew HO_Ac005.out)
     replace HO_Af005 := Aside0.mk (Kd.R_drew HO_Af005.out)
     replace BKAe := Aside0.mk (blk_drew BKAe.out)
     replace BKAd := Aside0.mk (blk_drew BKAd.out)
     replace BKAb := Aside0.mk (blk_drew BKAb.out)
     replace BKAa := Aside0.mk (blk_drew BKAa.out)
     replace HB := Aside0.mk (below_drew1 HB.out)
     refine start_ (n := 8) (S := fun w' => w'.cell? ⟨gbAb, 0, none⟩ = some (.int .i64 tAg) ∧ w'.cell? ⟨gbAb, 1, none⟩ = some (.int .i64 tAj) ∧ w'.cell? ⟨gbAb, 2, none⟩ = some (.int .i64 tAk) ∧ w'.cell? ⟨gbAb, 3, none⟩ = some (.int .i64 tAm) ∧ w'.cell? ⟨gbAb, 4, none⟩ = some (.int .i64 tAn) ∧ w'.cell? ⟨gbAb, 5, none⟩ = some (.slice Ao32 tAh.length co32) ∧ w'.cell? ⟨gbAa, 0, none⟩ = some (.int .i64 tAc) ∧ w'.cell? ⟨gbAa, 1, none⟩ = some (.int .i64 tAp) ∧ w'.cell? ⟨gbAa, 2, none⟩ = some (.int .i64 tAr) ∧ w'.cell? ⟨gbAa, 3, none⟩ = some (.int .i64 tAq) ∧ w'.cell? ⟨gbAa, 4, none⟩ = some (.int .i64 tAs) ∧ w'.cell? ⟨gbAa, 5, none⟩ = some (.slice Ao40 tAi.length co40)) (ds := []) #[false, false, false, false, false, false, false, false] (by kernel_rfl) rfl rfl ⟨(blk_cell BKAb.out 0).trans rfl, (blk_cell BKAb.out 1).trans rfl, (blk_cell BKAb.out 2).trans rfl, (blk_cell BKAb.out 3).trans rfl, (blk_cell BKAb.out 4).trans rfl, (blk_cell BKAb.out 5).trans rfl, (blk_cell BKAa.out 0).trans rfl, (blk_cell BKAa.out 1).trans rfl, (blk_cell BKAa.out 2).trans rfl, (blk_cell BKAa.out 3).trans rfl, (blk_cell BKAa.out 4).trans rfl, (blk_cell BKAa.out 5).trans rfl⟩ (fun hHeld => ?_); refine with_tabW plaitinglaw5_FrameChecks.tab27 plaitinglaw5_FrameChecks.bits27 (fun HT_ HW_ => ?_)
     generalize wc.drew = w191 at HO_Ac005 HO_Af005 BKAe BKAd BKAb BKAa HB hHeld ⊢
     refine tq_ 0 117 HT_ HW_ hHeld ?_
     refine tq_ 1 118 HT_ HW_ hHeld ?_
     refine tq_ 3 120 HT_ HW_ hHeld ?_
     refine tq_ 4 121 HT_ HW_ hHeld ?_
     refine oq_ 2 119 HT_ (fun K hK => ?_)
     refine gs_ Try.func22 #[.agg #[.int .i64 tAg, .int .i64 tAj, .int .i64 tAk, .int .i64 tAm, .int .i64 tAn, .slice Ao32 tAh.length co32], .agg #[.int .i64 tAc, .int .i64 tAp, .int .i64 tAr, .int .i64 tAq, .int .i64 tAs, .slice Ao40 tAi.length co40]] ?_
     with_reducible refine (frame_Check.calls tAg tAj tAk tAm tAn _ _ tAh tAc tAp tAr tAq tAs _ _ tAi tCs _ ?side1 ?side2 ?side3 ?side4 A189.out).mono ?_
     (case side1 => exact cC_ (Kd.R_reads' HO_Ac005.out).2.2)
     (case side2 => exact (Kd.R_reads' HO_Ac005.out).2.1)
     (case side3 => exact cC_ (Kd.R_reads' HO_Af005.out).2.2)
     (case side4 => exact (Kd.R_reads' HO_Af005.out).2.1)
     rintro e w192 ⟨rfl, hb⟩
     refine ⟨_, rfl, ?_⟩
     replace HO_Ac005 := Aside0.mk (Kd.R_below (pR_ HO_Ac005.out) hb)
     replace HO_Af005 := Aside0.mk (Kd.R_below (pR_ HO_Af005.out) hb)
     replace BKAe := Aside0.mk (blk_below (pB_ BKAe.out) hb)
     replace BKAd := Aside0.mk (blk_below (pB_ BKAd.out) hb)
     replace BKAb := Aside0.mk (blk_below (pB_ BKAb.out) hb)
     replace BKAa := Aside0.mk (blk_below (pB_ BKAa.out) hb)
     replace HB := Aside0.mk (below_step (pH_ HB.out) hb)
     (try clear hb)
     (try clear hb2)
     (try clear hk)
     (try clear hi)
     refine hK.out _ _ ⟨(blk_cell BKAb.out 0).trans rfl, (blk_cell BKAb.out 1).trans rfl, (blk_cell BKAb.out 2).trans rfl, (blk_cell BKAb.out 3).trans rfl, (blk_cell BKAb.out 4).trans rfl, (blk_cell BKAb.out 5).trans rfl, (blk_cell BKAa.out 0).trans rfl, (blk_cell BKAa.out 1).trans rfl, (blk_cell BKAa.out 2).trans rfl, (blk_cell BKAa.out 3).trans rfl, (blk_cell BKAa.out 4).trans rfl, (blk_cell BKAa.out 5).trans rfl⟩ (fun hHeld => ?_)
     clear hK K
     refine nq_ 119 ?_
     refine oq_ 5 122 HT_ (fun K hK => ?_)
     refine gs_ Try.func23 #[.agg #[.int .i64 tAg, .int .i64 tAj, .int .i64 tAk, .int .i64 tAm, .int .i64 tAn, .slice Ao32 tAh.length co32], .agg #[.int .i64 tAc, .int .i64 tAp, .int .i64 tAr, .int .i64 tAq, .int .i64 tAs, .slice Ao40 tAi.length co40]] ?_
     with_reducible refine (plaitingref5_Check.calls kj23 tAg tAj tAk tAm tAn _ _ tAh tAc tAp tAr tAq tAs _ _ tAi tCn _ ?side1 ?side2 ?side3 ?side4 A190.out).mono ?_
     (case side1 => exact cC_ (Kd.R_reads' HO_Ac005.out).2.2)
     (case side2 => exact (Kd.R_reads' HO_Ac005.out).2.1)
     (case side3 => exact cC_ (Kd.R_reads' HO_Af005.out).2.2)
     (case side4 => exact (Kd.R_reads' HO_Af005.out).2.1)
     rintro e w193 ⟨rfl, hb⟩
     refine ⟨_, rfl, ?_⟩
     replace HO_Ac005 := Aside0.mk (Kd.R_below (pR_ HO_Ac005.out) hb)
     replace HO_Af005 := Aside0.mk (Kd.R_below (pR_ HO_Af005.out) hb)
     replace BKAe := Aside0.mk (blk_below (pB_ BKAe.out) hb)
     replace BKAd := Aside0.mk (blk_below (pB_ BKAd.out) hb)
     replace BKAb := Aside0.mk (blk_below (pB_ BKAb.out) hb)
     replace BKAa := Aside0.mk (blk_below (pB_ BKAa.out) hb)
     replace HB := Aside0.mk (below_step (pH_ HB.out) hb)
     (try clear hb)
     (try clear hb2)
     (try clear hk)
     (try clear hi)
     refine hK.out _ _ ⟨(blk_cell BKAb.out 0).trans rfl, (blk_cell BKAb.out 1).trans rfl, (blk_cell BKAb.out 2).trans rfl, (blk_cell BKAb.out 3).trans rfl, (blk_cell BKAb.out 4).trans rfl, (blk_cell BKAb.out 5).trans rfl, (blk_cell BKAa.out 0).trans rfl, (blk_cell BKAa.out 1).trans rfl, (blk_cell BKAa.out 2).trans rfl, (blk_cell BKAa.out 3).trans rfl, (blk_cell BKAa.out 4).trans rfl, (blk_cell BKAa.out 5).trans rfl⟩ (fun hHeld => ?_)
     clear hK K
     refine nq_ 122 ?_
     refine pq_ 6 123 HT_ ?_
     refine pq_ 7 10 HT_ ?_
     refine done_ (done_of HT_.out (by kernel_rfl)) ?_
     try go_wp2
     go_ret
     exact ⟨by first | rfl | (simp [errW_none, errW_some] <;> rfl) | (simp [*, errW_none, errW_some] <;> rfl), by repeat (first | (with_reducible first | exact HB.out | apply below_alloc | apply pw_below_drewN | apply below_drew1 | refine below_set ?_ GEAe.out | refine below_set ?_ GEAd.out | refine below_set ?_ GEAb.out | refine below_set ?_ GEAa.out) | exact HB.out)⟩
def plaitinglaw5_FrameChecks.Pure : Prop := ∀ (a0_0 : Int) (a0_1 : Int) (a0_2 : Int) (a0_3 : Int) (a0_4 : Int) (l0_5 : List Int) (a1_0 : Int) (a1_1 : Int) (a1_2 : Int) (a1_3 : Int) (a1_4 : Int) (l1_5 : List (S26)) (l2 : List Int) (a3 : Int) (a4 : Int), ((Lit.int .i64 a0_0).wf = true) → ((Lit.int .i64 a0_1).wf = true) → ((Lit.int .i64 a0_2).wf = true) → ((Lit.int .i64 a0_3).wf = true) → ((Lit.int .i64 a0_4).wf = true) → (l0_5.length ≤ maxLen ∧ ∀ y_ ∈ l0_5, (Lit.int .i64 y_).wf = true) → ((Lit.int .i64 a1_0).wf = true) → ((Lit.int .i64 a1_1).wf = true) → ((Lit.int .i64 a1_2).wf = true) → ((Lit.int .i64 a1_3).wf = true) → ((Lit.int .i64 a1_4).wf = true) → (l1_5.length ≤ maxLen ∧ ∀ y_ ∈ l1_5, ok26 y_) → (l2.length ≤ maxLen) → (l2.length * 8 ≤ 140737488351232) → (∀ y_ ∈ l2, (Lit.int .i64 y_).wf = true) → ((Lit.int .i64 a3).wf = true) → ((Lit.int .i64 a4).wf = true) → ∃ k, plaitinglaw5_FrameChecks.f k a0_0 a0_1 a0_2 a0_3 a0_4 l0_5 a1_0 a1_1 a1_2 a1_3 a1_4 l1_5 l2 a3 a4 = some true
theorem plaitinglaw5_FrameChecks.walk (P : plaitinglaw5_FrameChecks.Pure) (a0_0 : Int) (a0_1 : Int) (a0_2 : Int) (a0_3 : Int) (a0_4 : Int) (A0_5 : Option Addr) (c0_5 : Nat) (l0_5 : List Int) (a1_0 : Int) (a1_1 : Int) (a1_2 : Int) (a1_3 : Int) (a1_4 : Int) (A1_5 : Option Addr) (c1_5 : Nat) (l1_5 : List (S26)) (A2 : Option Addr) (c2 : Nat) (l2 : List Int) (a3 : Int) (a4 : Int) (w : World) (q0 : (Lit.int .i64 a0_0).wf = true) (q1 : (Lit.int .i64 a0_1).wf = true) (q2 : (Lit.int .i64 a0_2).wf = true) (q3 : (Lit.int .i64 a0_3).wf = true) (q4 : (Lit.int .i64 a0_4).wf = true) (q5 : l0_5.length ≤ maxLen ∧ ∀ y_ ∈ l0_5, (Lit.int .i64 y_).wf = true) (q6 : (Lit.int .i64 a1_0).wf = true) (q7 : (Lit.int .i64 a1_1).wf = true) (q8 : (Lit.int .i64 a1_2).wf = true) (q9 : (Lit.int .i64 a1_3).wf = true) (q10 : (Lit.int .i64 a1_4).wf = true) (q11 : l1_5.length ≤ maxLen ∧ ∀ y_ ∈ l1_5, ok26 y_) (q12 : l2.length ≤ maxLen) (q13 : l2.length * 8 ≤ 140737488351232) (q14 : ∀ y_ ∈ l2, (Lit.int .i64 y_).wf = true) (q15 : (Lit.int .i64 a3).wf = true) (q16 : (Lit.int .i64 a4).wf = true) (hr0_5 : Kd.C (Kd.int .i64) w A0_5 l0_5.length l0_5) (hc0_5 : l0_5.length ≤ c0_5) (hr1_5 : Kd.C k26 w A1_5 l1_5.length l1_5) (hc1_5 : l1_5.length ≤ c1_5) (hr2 : Kd.C (Kd.int .i64) w A2 l2.length l2) (hc2 : l2.length ≤ c2) :
  Calls Try.prog 3 #[.agg #[.int .i64 a0_0, .int .i64 a0_1, .int .i64 a0_2, .int .i64 a0_3, .int .i64 a0_4, .slice A0_5 l0_5.length c0_5], .agg #[.int .i64 a1_0, .int .i64 a1_1, .int .i64 a1_2, .int .i64 a1_3, .int .i64 a1_4, .slice A1_5 l1_5.length c1_5], .slice A2 l2.length c2, .int .i64 a3, .int .i64 a4] w fun e w' => e = .returned (.bool true) ∧ Below w.heap.size w w' := by
 obtain ⟨k, h⟩ := P a0_0 a0_1 a0_2 a0_3 a0_4 l0_5 a1_0 a1_1 a1_2 a1_3 a1_4 l1_5 l2 a3 a4 q0 q1 q2 q3 q4 q5 q6 q7 q8 q9 q10 q11 q12 q13 q14 q15 q16
 refine (plaitinglaw5_FrameChecks.calls k a0_0 a0_1 a0_2 a0_3 a0_4 A0_5 c0_5 l0_5 a1_0 a1_1 a1_2 a1_3 a1_4 A1_5 c1_5 l1_5 A2 c2 l2 a3 a4 true w hr0_5 hc0_5 hr1_5 hc1_5 hr2 hc2 rfl h).mono ?_
 rintro e w' ⟨rfl, hd⟩
 exact ⟨rfl, hd⟩
end Go.Proofs.Ytcpohmfkmgcjkaa.P
