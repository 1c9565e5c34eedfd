/- Printed by a program of this session (myprint) out of the translation: the functions as plain Lean functions, and that the calls compute them. What counts is Lean's check. -/
import Derived.Test.YtcpohmfkmgcjkaaQArbRightOks
import Derived.Test.YtcpohmfkmgcjkaaQArbRightPx10
import Derived.Test.YtcpohmfkmgcjkaaQArbRightPx12
import Derived.Test.YtcpohmfkmgcjkaaQArbRightPx20
import Derived.Test.YtcpohmfkmgcjkaaQArbRightPx30
import Derived.Test.YtcpohmfkmgcjkaaQArbRightPx31
namespace Go.Proofs.Ytcpohmfkmgcjkaa.P
open Go.RowKit Go.Proofs.YtcpohmfkmgcjkaaW.PrintWords Go.Proofs.YtcpohmfkmgcjkaaW.PrintLast Go.Proofs.YtcpohmfkmgcjkaaW.PrintMore
attribute [local go_sem] max2_int min2_int max_two min_two max_three min_three max_four min_four
set_option linter.unusedVariables false
set_option linter.unusedSimpArgs false
attribute [-simp] ByteArray.size_extract ByteArray.size_append ByteArray.extract_append_extract
attribute [-go_sem] ByteArray.size_append'
mutual
def plaitinglaw10_ArbRight.j0 : Nat → Int → Int → List Int → ByteArray → Int → Int → Int → Int → Int → Int → List Int → Int → Int → Int → Int → Int → List (S26) → Option (Bool)
 | 0, _, _, _, _, _, _, _, _, _, _, _, _, _, _, _, _, _ => none
 | k + 1, x4, x5, x6, x7, x18, xAg000, xAg001, xAg002, xAg003, xAg004, xAg005, xAh000, xAh001, xAh002, xAh003, xAh004, xAh005 => (plaitingref5_Text.f k xAg000 xAg001 xAg002 xAg003 xAg004 xAg005 xAh000 xAh001 xAh002 xAh003 xAh004 xAh005).bind fun tBq => ((plaitinglaw10_within.f x5 (tBq.size : Int)).bind fun tCe => ((plaitingref1_Turn.f k tBq tCe).bind fun tBx => ((plaitinglaw1_Text.f k x6).bind fun tBy => (plaitinglaw10_ArbRight.l0 k x4 x18 (([tBq, tBx, tBy, x7] : List ByteArray)) 0 xAg000 xAg001 xAg002 xAg003 xAg004 xAg005 xAh000 xAh001 xAh002 xAh003 xAh004 xAh005))))
def plaitinglaw10_ArbRight.l0 : Nat → Int → Int → List ByteArray → Int → Int → Int → Int → Int → Int → List Int → Int → Int → Int → Int → Int → List (S26) → Option (Bool)
 | 0, _, _, _, _, _, _, _, _, _, _, _, _, _, _, _, _ => none
 | k + 1, x4, x18, x21, x22, xAg000, xAg001, xAg002, xAg003, xAg004, xAg005, xAh000, xAh001, xAh002, xAh003, xAh004, xAh005 => if x22 < 4 then (plaitinglaw10_ArbRight.l1 k x4 x18 x21 x22 0 xAg000 xAg001 xAg002 xAg003 xAg004 xAg005 xAh000 xAh001 xAh002 xAh003 xAh004 xAh005) else (some true)
def plaitinglaw10_ArbRight.l1 : Nat → Int → Int → List ByteArray → Int → Int → Int → Int → Int → Int → Int → List Int → Int → Int → Int → Int → Int → List (S26) → Option (Bool)
 | 0, _, _, _, _, _, _, _, _, _, _, _, _, _, _, _, _, _ => none
 | k + 1, x4, x18, x21, x22, x23, xAg000, xAg001, xAg002, xAg003, xAg004, xAg005, xAh000, xAh001, xAh002, xAh003, xAh004, xAh005 => if x23 < 2 then ((plaitingref3_Slots.f xAg000 xAg001 xAg002 xAg003 xAg004 xAg005).bind fun tCf => ((plaitinglaw10_within.f x4 tCf).bind fun tBz => ((some (([xAh002, tBz] : List Int) : List Int)).bind fun yAu => (if 0 ≤ x23 then (if x23 < (yAu.length : Int) then (if 0 ≤ x22 then (if x22 < (x21.length : Int) then ((arb_Right.f xAg000 xAg001 xAg002 xAg003 xAg004 xAg005 x18 (rd yAu x23) (rdOf ByteArray.empty x21 x22)).bind fun btAq => ((plaitingref10_Right.f k xAg000 xAg001 xAg002 xAg003 xAg004 xAg005 x18 (rd yAu x23) (rdOf ByteArray.empty x21 x22)).bind fun btAy => (if (btAq.2.2.2.2.2.2 != btAy.2.2.2.2.2.2) = true then (some false) else ((plaitingref5_Same.f k btAq.1 btAq.2.1 btAq.2.2.1 btAq.2.2.2.1 btAq.2.2.2.2.1 btAq.2.2.2.2.2.1 btAy.1 btAy.2.1 btAy.2.2.1 btAy.2.2.2.1 btAy.2.2.2.2.1 btAy.2.2.2.2.2.1).bind fun tCg => (if tCg = true then (plaitinglaw10_ArbRight.l1 k x4 x18 x21 x22 (wrap64 (x23 + 1)) xAg000 xAg001 xAg002 xAg003 xAg004 xAg005 xAh000 xAh001 xAh002 xAh003 xAh004 xAh005) else (some false)))))) else (none)) else (none)) else (none)) else (none))))) else (plaitinglaw10_ArbRight.l0 k x4 x18 x21 (wrap64 (x22 + 1)) xAg000 xAg001 xAg002 xAg003 xAg004 xAg005 xAh000 xAh001 xAh002 xAh003 xAh004 xAh005)
end
def plaitinglaw10_ArbRight.f (k : Nat) (a0_0 : Int) (a0_1 : Int) (a0_2 : Int) (a0_3 : Int) (a0_4 : Int) (l0_5 : List Int) (a1_0 : Int) (a1_1 : Int) (a1_2 : Int) (a1_3 : Int) (a1_4 : Int) (l1_5 : List (S26)) (l2 : List Int) (a3 : Int) (a4 : Int) (a5 : Int) (l6 : List Int) (a7 : ByteArray) : Option (Bool) := (plaitinglaw10_known.f k).bind fun tCd => (if tCd = true then (if (a7.size : Int) > 200 then (some true) else ((plaitinglaw3_Make.f k a0_0 a0_1 a0_2 a0_3 a0_4 l0_5).bind fun btAi => ((plaitinglaw10_within.f a3 200).bind fun tAg => ((plaitinglaw5_Make.f k btAi.1 btAi.2.1 btAi.2.2.1 btAi.2.2.2.1 btAi.2.2.2.2.1 btAi.2.2.2.2.2 a1_0 a1_1 a1_2 a1_3 a1_4 l1_5 l2).bind fun btAj => ((plaitinglaw10_within.f a5 3).bind fun tAh => (if tAh > 0 then ((plaitingref3_Wire.f btAi.1 btAi.2.1 btAi.2.2.1 btAi.2.2.2.1 btAi.2.2.2.2.1 btAi.2.2.2.2.2 tAg).bind fun tBw => (plaitinglaw10_ArbRight.j0 k a4 a5 l6 a7 tAg btAi.1 btAi.2.1 btAi.2.2.1 btAi.2.2.2.1 btAi.2.2.2.2.1 btAi.2.2.2.2.2 btAj.1 tBw btAj.2.2.1 btAj.2.2.2.1 btAj.2.2.2.2.1 btAj.2.2.2.2.2)) else (plaitinglaw10_ArbRight.j0 k a4 a5 l6 a7 tAg btAi.1 btAi.2.1 btAi.2.2.1 btAi.2.2.2.1 btAi.2.2.2.2.1 btAi.2.2.2.2.2 btAj.1 btAj.2.1 btAj.2.2.1 btAj.2.2.2.1 btAj.2.2.2.2.1 btAj.2.2.2.2.2))))))) else (some false))
def plaitinglaw10_ArbRight.T18 : Bool × List (List Nat × List Nat) := (true, [([], []), ([0], [0]), ([], []), ([], []), ([3], [3]), ([2, 4, 4], [2, 4]), ([1, 5], [1, 5]), ([], []), ([6, 7], [6, 7]), ([8], [8]), ([9, 5, 0, 1, 2, 3, 4, 5, 6, 7, 8, 9], [9])])
def plaitinglaw10_ArbRight.B18 : List Nat := [0, 1, 0, 0, 8, 28, 63, 0, 255, 511, 1023]
theorem plaitinglaw10_ArbRight.tab18 : rtab .any (opsOf Try.f13 18) = plaitinglaw10_ArbRight.T18 := by kernel_rfl
theorem plaitinglaw10_ArbRight.bits18 : waitsOk plaitinglaw10_ArbRight.T18.2 plaitinglaw10_ArbRight.B18 = true := by kernel_rfl
def plaitinglaw10_ArbRight.T19 : Bool × List (List Nat × List Nat) := (true, [([], []), ([], []), ([], []), ([], []), ([], []), ([3, 4], [3, 4]), ([5], [5]), ([0, 1, 2, 6], [0, 1, 2, 6]), ([7], [7]), ([8], [8]), ([8], [8]), ([], []), ([11, 9, 7, 0, 1, 2, 3, 4, 5, 6, 7, 8, 9, 11], [9, 11]), ([10, 12, 0, 1, 2, 3, 4, 5, 6, 7, 8, 9, 10, 11, 12], [10])])
def plaitinglaw10_ArbRight.B19 : List Nat := [0, 0, 0, 0, 0, 24, 56, 127, 255, 511, 511, 0, 3071, 8191]
theorem plaitinglaw10_ArbRight.tab19 : rtab .any (opsOf Try.f13 19) = plaitinglaw10_ArbRight.T19 := by kernel_rfl
theorem plaitinglaw10_ArbRight.bits19 : waitsOk plaitinglaw10_ArbRight.T19.2 plaitinglaw10_ArbRight.B19 = true := by kernel_rfl
def plaitinglaw10_ArbRight.T20 : Bool × List (List Nat × List Nat) := (true, [([], []), ([], []), ([], []), ([], []), ([], []), ([3, 4], [3, 4]), ([5], [5]), ([0, 1, 2, 6], [0, 1, 2, 6]), ([7], [7]), ([8], [8]), ([8], [8]), ([], []), ([11, 9, 7, 0, 1, 2, 3, 4, 5, 6, 7, 8, 9, 11], [9, 11]), ([10, 12, 0, 1, 2, 3, 4, 5, 6, 7, 8, 9, 10, 11, 12], [10])])
def plaitinglaw10_ArbRight.B20 : List Nat := [0, 0, 0, 0, 0, 24, 56, 127, 255, 511, 511, 0, 3071, 8191]
theorem plaitinglaw10_ArbRight.tab20 : rtab .any (opsOf Try.f13 20) = plaitinglaw10_ArbRight.T20 := by kernel_rfl
theorem plaitinglaw10_ArbRight.bits20 : waitsOk plaitinglaw10_ArbRight.T20.2 plaitinglaw10_ArbRight.B20 = true := by kernel_rfl
set_option maxHeartbeats 8000000 in
set_option maxRecDepth 100000 in
theorem plaitinglaw10_ArbRight.calls (k : Nat) (a0_0 : Int) (a0_1 : Int) (a0_2 : Int) (a0_3 : Int) (a0_4 : Int) (A0_5 : Option Addr) (c0_5 : Nat) (l0_5 : List Int) (a1_0 : Int) (a1_1 : Int) (a1_2 : Int) (a1_3 : Int) (a1_4 : Int) (A1_5 : Option Addr) (c1_5 : Nat) (l1_5 : List (S26)) (A2 : Option Addr) (c2 : Nat) (l2 : List Int) (a3 : Int) (a4 : Int) (a5 : Int) (A6 : Option Addr) (c6 : Nat) (l6 : List Int) (a7 : ByteArray) (r : Bool) (w : World) (hr0_5 : Kd.C (Kd.int .i64) w A0_5 l0_5.length l0_5) (hc0_5 : l0_5.length ≤ c0_5) (hr1_5 : Kd.C k26 w A1_5 l1_5.length l1_5) (hc1_5 : l1_5.length ≤ c1_5) (hr2 : Kd.C (Kd.int .i64) w A2 l2.length l2) (hc2 : l2.length ≤ c2) (hr6 : Kd.C (Kd.int .i64) w A6 l6.length l6) (hc6 : l6.length ≤ c6) (hrt : r = true) (h : plaitinglaw10_ArbRight.f k a0_0 a0_1 a0_2 a0_3 a0_4 l0_5 a1_0 a1_1 a1_2 a1_3 a1_4 l1_5 l2 a3 a4 a5 l6 a7 = some r) :
  Calls Try.prog 13 #[.agg #[.int .i64 a0_0, .int .i64 a0_1, .int .i64 a0_2, .int .i64 a0_3, .int .i64 a0_4, .slice A0_5 l0_5.length c0_5], .agg #[.int .i64 a1_0, .int .i64 a1_1, .int .i64 a1_2, .int .i64 a1_3, .int .i64 a1_4, .slice A1_5 l1_5.length c1_5], .slice A2 l2.length c2, .int .i64 a3, .int .i64 a4, .int .i64 a5, .slice A6 l6.length c6, .string a7] w fun e w' => e = .returned (.bool r) ∧ Below w.heap.size w w' := by
 have HRT := Aside0.mk hrt
 clear hrt
 have hu24 := Try.underlying24
 have hu29 := Try.underlying29
 have HR0_5 := Aside0.mk hr0_5
 have HC0_5 := Aside0.mk hc0_5
 clear hr0_5 hc0_5
 have HR1_5 := Aside0.mk hr1_5
 have HC1_5 := Aside0.mk hc1_5
 clear hr1_5 hc1_5
 have HR2 := Aside0.mk hr2
 have HC2 := Aside0.mk hc2
 clear hr2 hc2
 have HR6 := Aside0.mk hr6
 have HC6 := Aside0.mk hc6
 clear hr6 hc6
 have HB := Aside0.mk (Below.refl w.heap.size w)
 have H : ((plaitinglaw10_known.f k).bind fun tCd => (if tCd = true then (if (a7.size : Int) > 200 then (some true) else ((plaitinglaw3_Make.f k a0_0 a0_1 a0_2 a0_3 a0_4 l0_5).bind fun btAi => ((plaitinglaw10_within.f a3 200).bind fun tAg => ((plaitinglaw5_Make.f k btAi.1 btAi.2.1 btAi.2.2.1 btAi.2.2.2.1 btAi.2.2.2.2.1 btAi.2.2.2.2.2 a1_0 a1_1 a1_2 a1_3 a1_4 l1_5 l2).bind fun btAj => ((plaitinglaw10_within.f a5 3).bind fun tAh => (if tAh > 0 then ((plaitingref3_Wire.f btAi.1 btAi.2.1 btAi.2.2.1 btAi.2.2.2.1 btAi.2.2.2.2.1 btAi.2.2.2.2.2 tAg).bind fun tBw => (plaitinglaw10_ArbRight.j0 k a4 a5 l6 a7 tAg btAi.1 btAi.2.1 btAi.2.2.1 btAi.2.2.2.1 btAi.2.2.2.2.1 btAi.2.2.2.2.2 btAj.1 tBw btAj.2.2.1 btAj.2.2.2.1 btAj.2.2.2.2.1 btAj.2.2.2.2.2)) else (plaitinglaw10_ArbRight.j0 k a4 a5 l6 a7 tAg btAi.1 btAi.2.1 btAi.2.2.1 btAi.2.2.2.1 btAi.2.2.2.2.1 btAi.2.2.2.2.2 btAj.1 btAj.2.1 btAj.2.2.1 btAj.2.2.2.1 btAj.2.2.2.2.1 btAj.2.2.2.2.2))))))) else (some false))) = some r := h
 clear h
 replace H := Option.bind_eq_some_iff.mp H
 obtain ⟨tCd, A90, H⟩ := H
 try dsimp only at H
 have A9 := Aside0.mk A90
 clear A90
 by_cases c10 : tCd = true
 rotate_left
 ·
  replace c10 := Bool.eq_false_iff.mpr c10
  subst c10
  have H1 : (some false) = some r := by rw [if_neg (show ¬ (false = true) by decide)] at H; exact H
  clear H
  have H := H1
  clear H1
  exact absurd ((Option.some.inj H).trans HRT.out) (by decide)
 subst c10
 have H1 : (if (a7.size : Int) > 200 then (some true) else ((plaitinglaw3_Make.f k a0_0 a0_1 a0_2 a0_3 a0_4 l0_5).bind fun btAi => ((plaitinglaw10_within.f a3 200).bind fun tAg => ((plaitinglaw5_Make.f k btAi.1 btAi.2.1 btAi.2.2.1 btAi.2.2.2.1 btAi.2.2.2.2.1 btAi.2.2.2.2.2 a1_0 a1_1 a1_2 a1_3 a1_4 l1_5 l2).bind fun btAj => ((plaitinglaw10_within.f a5 3).bind fun tAh => (if tAh > 0 then ((plaitingref3_Wire.f btAi.1 btAi.2.1 btAi.2.2.1 btAi.2.2.2.1 btAi.2.2.2.2.1 btAi.2.2.2.2.2 tAg).bind fun tBw => (plaitinglaw10_ArbRight.j0 k a4 a5 l6 a7 tAg btAi.1 btAi.2.1 btAi.2.2.1 btAi.2.2.2.1 btAi.2.2.2.2.1 btAi.2.2.2.2.2 btAj.1 tBw btAj.2.2.1 btAj.2.2.2.1 btAj.2.2.2.2.1 btAj.2.2.2.2.2)) else (plaitinglaw10_ArbRight.j0 k a4 a5 l6 a7 tAg btAi.1 btAi.2.1 btAi.2.2.1 btAi.2.2.2.1 btAi.2.2.2.2.1 btAi.2.2.2.2.2 btAj.1 btAj.2.1 btAj.2.2.1 btAj.2.2.2.1 btAj.2.2.2.2.1 btAj.2.2.2.2.2))))))) = some r := by rw [if_pos rfl] at H; exact H
 clear H
 have H := H1
 clear H1
 by_cases c11 : (a7.size : Int) > 200
 ·
  rw [if_pos c11] at H
  have c11b0 : decide (200 < (a7.size : Int)) = true := decide_eq_true c11
  have c11b1 : decide (200 < a7.size) = true := decide_eq_true (by omega)
  clear c11
  obtain rfl := Option.some.inj H
  go_enter Try.func13, Try.ntmps13
  go_wp2_with (first | ((with_reducible refine gate_dst (N := 8) rfl ?_); refine be_ 8 #[.int .i64 a0_0, .int .i64 a0_1, .int .i64 a0_2, .int .i64 a0_3, .int .i64 a0_4, .slice A0_5 l0_5.length c0_5] 24 ?_; intro gbAe hg w12 hbox hb; have BKAe := Aside0.mk (hbox); have GWAe := Aside0.mk ((by rw [hg]; exact (below_size (pH_ HB.out)) : w.heap.size ≤ gbAe)); have GEAe := Aside0.mk ((by rw [hg]; exact (below_size (pH_ HB.out)) : w.heap.size ≤ gbAe)); replace HB := bs_ HB hb; clear hb hbox hg) | ((with_reducible refine gate_dst (N := 9) rfl ?_); refine be_ 9 #[.int .i64 a1_0, .int .i64 a1_1, .int .i64 a1_2, .int .i64 a1_3, .int .i64 a1_4, .slice A1_5 l1_5.length c1_5] 29 ?_; intro gbAf hg w13 hbox hb; have BKAf := Aside0.mk (hbox); have GWAf := Aside0.mk ((by rw [hg]; exact (below_size (pH_ HB.out)) : w.heap.size ≤ gbAf)); have GEAf := Aside0.mk ((by rw [hg]; exact (below_size (pH_ HB.out)) : w.heap.size ≤ gbAf)); have NBAe_Af := Aside0.mk (ltB_ hg BKAe.out); have NBAf_Ae := Aside0.mk (ltB_ hg BKAe.out).symm; replace BKAe := bb_ BKAe hb; replace HB := bs_ HB hb; clear hb hbox hg) | ((with_reducible refine gate_callee (f := 37) rfl ?_); refine gL_ 29 Try.func37 #[] ?_; (with_reducible refine (plaitinglaw10_known.calls k  true _ A9.out).mono ?_); rintro e w14 ⟨rfl, hb⟩; refine ⟨_, rfl, ?_⟩; replace BKAe := bb_ BKAe hb; replace BKAf := bb_ BKAf hb; replace HB := bs_ HB hb; (try clear hb); (try clear hb2); (try clear hk); (try clear hi)))
  go_ret
  exact ⟨by first | rfl | (simp [errW_none, errW_some] <;> rfl) | (simp [*, errW_none, errW_some] <;> rfl), pH_ HB.out⟩
 rw [if_neg c11] at H
 have c11b0 : decide (200 < (a7.size : Int)) = false := decide_eq_false c11
 have c11b1 : decide (200 < a7.size) = false := decide_eq_false (by omega)
 clear c11
 replace H := Option.bind_eq_some_iff.mp H
 obtain ⟨⟨tAi, tAn, tAp, tAr, tAt, tAk⟩, A150, H⟩ := H
 try dsimp only at H
 have A15 := Aside0.mk A150
 clear A150
 replace H := Option.bind_eq_some_iff.mp H
 obtain ⟨tAg, A160, H⟩ := H
 try dsimp only at H
 have A16 := Aside0.mk A160
 clear A160
 replace H := Option.bind_eq_some_iff.mp H
 obtain ⟨⟨tAj, tBj, tAx, tBb, tBe, tAm⟩, A170, H⟩ := H
 try dsimp only at H
 have A17 := Aside0.mk A170
 clear A170
 replace H := Option.bind_eq_some_iff.mp H
 obtain ⟨tAh, A180, H⟩ := H
 try dsimp only at H
 have A18 := Aside0.mk A180
 clear A180
 have HC19 := Aside0.mk H
 clear H
 go_enter Try.func13, Try.ntmps13
 go_upto_if 44 with (first | ((with_reducible refine gate_dst (N := 8) rfl ?_); refine be_ 8 #[.int .i64 a0_0, .int .i64 a0_1, .int .i64 a0_2, .int .i64 a0_3, .int .i64 a0_4, .slice A0_5 l0_5.length c0_5] 24 ?_; intro gbAe hg w20 hbox hb; have BKAe := Aside0.mk (hbox); have GWAe := Aside0.mk ((by rw [hg]; exact (below_size (pH_ HB.out)) : w.heap.size ≤ gbAe)); have GEAe := Aside0.mk ((by rw [hg]; exact (below_size (pH_ HB.out)) : w.heap.size ≤ gbAe)); replace HB := bs_ HB hb; clear hb hbox hg) | ((with_reducible refine gate_dst (N := 9) rfl ?_); refine be_ 9 #[.int .i64 a1_0, .int .i64 a1_1, .int .i64 a1_2, .int .i64 a1_3, .int .i64 a1_4, .slice A1_5 l1_5.length c1_5] 29 ?_; intro gbAf hg w21 hbox hb; have BKAf := Aside0.mk (hbox); have GWAf := Aside0.mk ((by rw [hg]; exact (below_size (pH_ HB.out)) : w.heap.size ≤ gbAf)); have GEAf := Aside0.mk ((by rw [hg]; exact (below_size (pH_ HB.out)) : w.heap.size ≤ gbAf)); have NBAe_Af := Aside0.mk (ltB_ hg BKAe.out); have NBAf_Ae := Aside0.mk (ltB_ hg BKAe.out).symm; replace BKAe := bb_ BKAe hb; replace HB := bs_ HB hb; clear hb hbox hg) | ((with_reducible refine gate_callee (f := 37) rfl ?_); refine gL_ 29 Try.func37 #[] ?_; (with_reducible refine (plaitinglaw10_known.calls k  true _ A9.out).mono ?_); rintro e w22 ⟨rfl, hb⟩; refine ⟨_, rfl, ?_⟩; replace BKAe := bb_ BKAe hb; replace BKAf := bb_ BKAf hb; replace HB := bs_ HB hb; (try clear hb); (try clear hb2); (try clear hk); (try clear hi); have hnb23 := NBAe_Af.out; have hnc23 := NBAf_Ae.out; obtain ⟨hcz24_0, hcz24_1, hcz24_2, hcz24_3, hcz24_4, hcz24_5⟩ := c6_ BKAe; obtain ⟨hfz24_0, hfz24_1, hfz24_2, hfz24_3, hfz24_4, hfz24_5⟩ := f6_ BKAe) | ((with_reducible refine gate_callee (f := 20) rfl ?_); refine gL_ 35 Try.func20 #[.agg #[.int .i64 a0_0, .int .i64 a0_1, .int .i64 a0_2, .int .i64 a0_3, .int .i64 a0_4, .slice A0_5 l0_5.length c0_5]] ?_; (with_reducible refine (plaitinglaw3_Make.calls k a0_0 a0_1 a0_2 a0_3 a0_4 _ _ l0_5 tAi tAn tAp tAr tAt tAk _ ?side1 ?side2 A15.out).mono ?_); (case side1 => exact cC_ (Kd.C_below HR0_5.out HB.out)); (case side2 => exact HC0_5.out); rintro e w25 ⟨vCj, rfl, ho0, hb⟩; refine ⟨_, rfl, ?_⟩; have HOBp := Aside0.mk (Kd.R_lower ho0 (below_size (pH_ HB.out))); replace BKAe := bb_ BKAe hb; replace BKAf := bb_ BKAf hb; replace HB := bs_ HB hb; (try clear hb); (try clear hb2); (try clear hk); (try clear hi); (try clear ho0)) | ((with_reducible refine gate_dst (N := 17) rfl ?_); refine be_ 17 #[.int .i64 0, .int .i64 0, .int .i64 0, .int .i64 0, .int .i64 0, .slice none 0 0] 24 ?_; intro gbAb hg w26 hbox hb; have BKAb := Aside0.mk (hbox); have GWAb := Aside0.mk ((by rw [hg]; exact (below_size (pH_ HB.out)) : w.heap.size ≤ gbAb)); have GEAb := Aside0.mk ((by rw [hg]; exact (below_size (pH_ HB.out)) : w.heap.size ≤ gbAb)); have NBAe_Ab := Aside0.mk (ltB_ hg BKAe.out); have NBAb_Ae := Aside0.mk (ltB_ hg BKAe.out).symm; have NBAf_Ab := Aside0.mk (ltB_ hg BKAf.out); have NBAb_Af := Aside0.mk (ltB_ hg BKAf.out).symm; replace HOBp := Aside0.mk (Kd.R_below (pR_ HOBp.out) hb); replace BKAe := bb_ BKAe hb; replace BKAf := bb_ BKAf hb; replace HB := bs_ HB hb; clear hb hbox hg; have hnb27 := NBAb_Ae.out; have hnc27 := NBAe_Ab.out; have hnb28 := NBAb_Af.out; have hnc28 := NBAf_Ab.out; obtain ⟨hcz29_0, hcz29_1, hcz29_2, hcz29_3, hcz29_4, hcz29_5⟩ := c6_ BKAb; obtain ⟨hfz29_0, hfz29_1, hfz29_2, hfz29_3, hfz29_4, hfz29_5⟩ := f6_ BKAb; obtain ⟨Ao30, co30, eo30⟩ := Kd.R_slice HOBp.out; subst eo30) | ((with_reducible refine gate_callee (f := 38) rfl ?_); refine gL_ 37 Try.func38 #[.int .i64 a3, .int .i64 200] ?_; (with_reducible refine (plaitinglaw10_within.calls a3 200 tAg _ A16.out).mono ?_); rintro e w' ⟨rfl, ⟨nd, rfl⟩⟩; refine ⟨_, rfl, ?_⟩; obtain ⟨hcz31_0, hcz31_1, hcz31_2, hcz31_3, hcz31_4, hcz31_5⟩ := c6_ BKAf; obtain ⟨hfz31_0, hfz31_1, hfz31_2, hfz31_3, hfz31_4, hfz31_5⟩ := f6_ BKAf) | ((with_reducible refine gate_callee (f := 21) rfl ?_); refine gL_ 41 Try.func21 #[.agg #[.int .i64 tAi, .int .i64 tAn, .int .i64 tAp, .int .i64 tAr, .int .i64 tAt, .slice Ao30 tAk.length co30], .agg #[.int .i64 a1_0, .int .i64 a1_1, .int .i64 a1_2, .int .i64 a1_3, .int .i64 a1_4, .slice A1_5 l1_5.length c1_5], .slice A2 l2.length c2] ?_; (with_reducible refine (plaitinglaw5_Make.calls k tAi tAn tAp tAr tAt _ _ tAk a1_0 a1_1 a1_2 a1_3 a1_4 _ _ l1_5 _ _ l2 tAj tBj tAx tBb tBe tAm _ ?side1 ?side2 ?side3 ?side4 ?side5 ?side6 A17.out).mono ?_); (case side1 => refine (Kd.R_reads' (e := 3) (base := w.heap.size) (ok := fun k_ => True) (n := tAk.length) (c := co30) ?_).2.2; exact (by (with_reducible repeat (first | apply Kd.R_alloc | apply Kd.R_drewN | apply Kd.R_drew)); exact (Kd.R_mono (Kd.R_far (p := ⟨gbAb, 5, none⟩) (Kd.R_far (p := ⟨gbAb, 4, none⟩) (Kd.R_far (p := ⟨gbAb, 3, none⟩) (Kd.R_far (p := ⟨gbAb, 2, none⟩) (Kd.R_far (p := ⟨gbAb, 1, none⟩) (Kd.R_far (p := ⟨gbAb, 0, none⟩) (Kd.R_types HOBp.out BKAb.out (by decide)) (fun _ hk => hk.2) (.int .i64 tAi)) (fun _ hk => hk.2) (.int .i64 tAn)) (fun _ hk => hk.2) (.int .i64 tAp)) (fun _ hk => hk.2) (.int .i64 tAr)) (fun _ hk => hk.2) (.int .i64 tAt)) (fun _ hk => hk.2) (.slice Ao30 tAk.length co30)) (fun _ h_ => h_.1)))); (case side2 => exact (Kd.R_reads' HOBp.out).2.1); (case side3 => exact Kd.C_below HR1_5.out (pH_ HB.out)); (case side4 => exact HC1_5.out); (case side5 => exact Kd.C_below HR2.out (pH_ HB.out)); (case side6 => exact HC2.out); rintro e w32 ⟨vCk, rfl, ho0, hb⟩; refine ⟨_, rfl, ?_⟩; have HOCa := Aside0.mk (Kd.R_lower ho0 (below_size (pH_ HB.out))); replace HOBp := Aside0.mk (Kd.R_below (by (with_reducible repeat (first | apply Kd.R_alloc | apply Kd.R_drewN | apply Kd.R_drew)); exact (Kd.R_mono (Kd.R_far (p := ⟨gbAb, 5, none⟩) (Kd.R_far (p := ⟨gbAb, 4, none⟩) (Kd.R_far (p := ⟨gbAb, 3, none⟩) (Kd.R_far (p := ⟨gbAb, 2, none⟩) (Kd.R_far (p := ⟨gbAb, 1, none⟩) (Kd.R_far (p := ⟨gbAb, 0, none⟩) (Kd.R_types HOBp.out BKAb.out (by decide)) (fun _ hk => hk.2) (.int .i64 tAi)) (fun _ hk => hk.2) (.int .i64 tAn)) (fun _ hk => hk.2) (.int .i64 tAp)) (fun _ hk => hk.2) (.int .i64 tAr)) (fun _ hk => hk.2) (.int .i64 tAt)) (fun _ hk => hk.2) (.slice Ao30 tAk.length co30)) (fun _ h_ => h_.1))) hb); replace BKAe := Aside0.mk (blk_below (g := gbAe) (o := .cells #[.int .i64 a0_0, .int .i64 a0_1, .int .i64 a0_2, .int .i64 a0_3, .int .i64 a0_4, .slice A0_5 l0_5.length c0_5] 24 (0, 0)) (bF_ BKAe.out NBAe_Ab.out) hb); replace BKAf := Aside0.mk (blk_below (g := gbAf) (o := .cells #[.int .i64 a1_0, .int .i64 a1_1, .int .i64 a1_2, .int .i64 a1_3, .int .i64 a1_4, .slice A1_5 l1_5.length c1_5] 29 (0, 0)) (bF_ BKAf.out NBAf_Ab.out) hb); replace BKAb := Aside0.mk (blk_below (g := gbAb) (o := .cells #[.int .i64 tAi, .int .i64 tAn, .int .i64 tAp, .int .i64 tAr, .int .i64 tAt, .slice Ao30 tAk.length co30] 24 (0, 0)) (by (with_reducible repeat (first | refine blk_drewN ?_ _ | refine blk_drew ?_ | refine blk_alloc ?_ _)); refine blk_put (cs := #[.int .i64 tAi, .int .i64 tAn, .int .i64 tAp, .int .i64 tAr, .int .i64 tAt, .slice none 0 0]) ?_ 5 _ rfl; refine blk_put (cs := #[.int .i64 tAi, .int .i64 tAn, .int .i64 tAp, .int .i64 tAr, .int .i64 0, .slice none 0 0]) ?_ 4 _ rfl; refine blk_put (cs := #[.int .i64 tAi, .int .i64 tAn, .int .i64 tAp, .int .i64 0, .int .i64 0, .slice none 0 0]) ?_ 3 _ rfl; refine blk_put (cs := #[.int .i64 tAi, .int .i64 tAn, .int .i64 0, .int .i64 0, .int .i64 0, .slice none 0 0]) ?_ 2 _ rfl; refine blk_put (cs := #[.int .i64 tAi, .int .i64 0, .int .i64 0, .int .i64 0, .int .i64 0, .slice none 0 0]) ?_ 1 _ rfl; refine blk_put (cs := #[.int .i64 0, .int .i64 0, .int .i64 0, .int .i64 0, .int .i64 0, .slice none 0 0]) ?_ 0 _ rfl; (with_reducible repeat (first | refine blk_drewN ?_ _ | refine blk_drew ?_ | refine blk_alloc ?_ _)); exact BKAb.out) hb); replace HB := bs_ HB hb; (try clear hb); (try clear hb2); (try clear hk); (try clear hi); (try clear ho0)) | ((with_reducible refine gate_dst (N := 19) rfl ?_); refine be_ 19 #[.int .i64 0, .int .i64 0, .int .i64 0, .int .i64 0, .int .i64 0, .slice none 0 0] 29 ?_; intro gbAd hg w33 hbox hb; have BKAd := Aside0.mk (hbox); have GWAd := Aside0.mk ((by rw [hg]; exact (below_size (pH_ HB.out)) : w.heap.size ≤ gbAd)); have GEAd := Aside0.mk ((by rw [hg]; exact (below_size (pH_ HB.out)) : w.heap.size ≤ gbAd)); have NBAe_Ad := Aside0.mk (ltB_ hg BKAe.out); have NBAd_Ae := Aside0.mk (ltB_ hg BKAe.out).symm; have NBAf_Ad := Aside0.mk (ltB_ hg BKAf.out); have NBAd_Af := Aside0.mk (ltB_ hg BKAf.out).symm; have NBAb_Ad := Aside0.mk (ltB_ hg BKAb.out); have NBAd_Ab := Aside0.mk (ltB_ hg BKAb.out).symm; replace HOBp := Aside0.mk (Kd.R_below (pR_ HOBp.out) hb); replace HOCa := Aside0.mk (Kd.R_below (pR_ HOCa.out) hb); replace BKAe := bb_ BKAe hb; replace BKAf := bb_ BKAf hb; replace BKAb := bb_ BKAb hb; replace HB := bs_ HB hb; clear hb hbox hg; have hnb34 := NBAd_Ae.out; have hnc34 := NBAe_Ad.out; have hnb35 := NBAd_Af.out; have hnc35 := NBAf_Ad.out; have hnb36 := NBAd_Ab.out; have hnc36 := NBAb_Ad.out; obtain ⟨hcz37_0, hcz37_1, hcz37_2, hcz37_3, hcz37_4, hcz37_5⟩ := c6_ BKAd; obtain ⟨hfz37_0, hfz37_1, hfz37_2, hfz37_3, hfz37_4, hfz37_5⟩ := f6_ BKAd; obtain ⟨Ao38, co38, eo38⟩ := Kd.R_slice HOCa.out; subst eo38) | ((with_reducible refine gate_callee (f := 38) rfl ?_); refine gL_ 43 Try.func38 #[.int .i64 a5, .int .i64 3] ?_; (with_reducible refine (plaitinglaw10_within.calls a5 3 tAh _ A18.out).mono ?_); rintro e w' ⟨rfl, ⟨nd, rfl⟩⟩; refine ⟨_, rfl, ?_⟩))
 (try simp only [Act.put, List.setIfInBounds_toArray, List.set_cons_zero, List.set_cons_succ])
 go_cut [] (fun wc => ∃ (kq : Nat) (x26123001_18 : Int), Aside0 (plaitinglaw10_ArbRight.j0 kq a4 a5 l6 a7 tAg tAi tAn tAp tAr tAt tAk tAj x26123001_18 tAx tBb tBe tAm = some r) ∧ Aside0 (kq ≤ k) ∧ Aside0 (Kd.R (Kd.int .i64) 3 wc w.heap.size (fun _ => True) (.slice Ao30 tAk.length co30) tAk) ∧ Aside0 (Kd.R k26 26 wc w.heap.size (fun _ => True) (.slice Ao38 tAm.length co38) tAm) ∧ Aside0 (wc.heap[gbAe]? = some (.cells #[.int .i64 a0_0, .int .i64 a0_1, .int .i64 a0_2, .int .i64 a0_3, .int .i64 a0_4, (.slice A0_5 l0_5.length c0_5)] 24 (0, 0))) ∧ Aside0 (wc.heap[gbAf]? = some (.cells #[.int .i64 a1_0, .int .i64 a1_1, .int .i64 a1_2, .int .i64 a1_3, .int .i64 a1_4, (.slice A1_5 l1_5.length c1_5)] 29 (0, 0))) ∧ Aside0 (wc.heap[gbAb]? = some (.cells #[.int .i64 tAi, .int .i64 tAn, .int .i64 tAp, .int .i64 tAr, .int .i64 tAt, (.slice Ao30 tAk.length co30)] 24 (0, 0))) ∧ Aside0 (wc.heap[gbAd]? = some (.cells #[.int .i64 tAj, .int .i64 x26123001_18, .int .i64 tAx, .int .i64 tBb, .int .i64 tBe, (.slice Ao38 tAm.length co38)] 29 (0, 0))) ∧ Aside0 (Below w.heap.size w wc))
 case first =>
  have H := HC19.out
  clear HC19
  by_cases c39 : tAh > 0
  rotate_left
  ·
   rw [if_neg c39] at H
   have c39b0 : decide (0 < tAh) = false := decide_eq_false c39
   clear c39
   (first | rw [c39b0] | (simp only [i64_w, i32_w]; rw [c39b0]) | skip)
   have H' := Aside0.mk H
   clear H
   go_wp2
   go_meet
   case rel => exact ⟨_, (tBj), H', ⟨by first | omega | exact Nat.le_refl _⟩, ⟨by (with_reducible repeat (first | apply Kd.R_alloc | apply Kd.R_drewN | apply Kd.R_drew)); exact Kd.R_mono (Kd.R_far (p := ⟨gbAd, 5, none⟩) (Kd.R_far (p := ⟨gbAd, 4, none⟩) (Kd.R_far (p := ⟨gbAd, 3, none⟩) (Kd.R_far (p := ⟨gbAd, 2, none⟩) (Kd.R_far (p := ⟨gbAd, 1, none⟩) (Kd.R_far (p := ⟨gbAd, 0, none⟩) (Kd.R_types HOBp.out BKAd.out (by decide)) (fun _ hk => hk.2) (.int .i64 tAj)) (fun _ hk => hk.2) (.int .i64 tBj)) (fun _ hk => hk.2) (.int .i64 tAx)) (fun _ hk => hk.2) (.int .i64 tBb)) (fun _ hk => hk.2) (.int .i64 tBe)) (fun _ hk => hk.2) (.slice Ao38 tAm.length co38)) (fun _ hk => trivial)⟩, ⟨by (with_reducible repeat (first | apply Kd.R_alloc | apply Kd.R_drewN | apply Kd.R_drew)); exact Kd.R_mono (Kd.R_far (p := ⟨gbAd, 5, none⟩) (Kd.R_far (p := ⟨gbAd, 4, none⟩) (Kd.R_far (p := ⟨gbAd, 3, none⟩) (Kd.R_far (p := ⟨gbAd, 2, none⟩) (Kd.R_far (p := ⟨gbAd, 1, none⟩) (Kd.R_far (p := ⟨gbAd, 0, none⟩) (Kd.R_types HOCa.out BKAd.out (by decide)) (fun _ hk => hk.2) (.int .i64 tAj)) (fun _ hk => hk.2) (.int .i64 tBj)) (fun _ hk => hk.2) (.int .i64 tAx)) (fun _ hk => hk.2) (.int .i64 tBb)) (fun _ hk => hk.2) (.int .i64 tBe)) (fun _ hk => hk.2) (.slice Ao38 tAm.length co38)) (fun _ hk => trivial)⟩, ⟨bF_ BKAe.out NBAe_Ad.out⟩, ⟨bF_ BKAf.out NBAf_Ad.out⟩, ⟨bF_ BKAb.out NBAb_Ad.out⟩, ⟨by (with_reducible repeat (first | refine blk_drewN ?_ _ | refine blk_drew ?_ | refine blk_alloc ?_ _)); refine blk_put (cs := #[.int .i64 tAj, .int .i64 tBj, .int .i64 tAx, .int .i64 tBb, .int .i64 tBe, .slice none 0 0]) ?_ 5 _ rfl; refine blk_put (cs := #[.int .i64 tAj, .int .i64 tBj, .int .i64 tAx, .int .i64 tBb, .int .i64 0, .slice none 0 0]) ?_ 4 _ rfl; refine blk_put (cs := #[.int .i64 tAj, .int .i64 tBj, .int .i64 tAx, .int .i64 0, .int .i64 0, .slice none 0 0]) ?_ 3 _ rfl; refine blk_put (cs := #[.int .i64 tAj, .int .i64 tBj, .int .i64 0, .int .i64 0, .int .i64 0, .slice none 0 0]) ?_ 2 _ rfl; refine blk_put (cs := #[.int .i64 tAj, .int .i64 0, .int .i64 0, .int .i64 0, .int .i64 0, .slice none 0 0]) ?_ 1 _ rfl; refine blk_put (cs := #[.int .i64 0, .int .i64 0, .int .i64 0, .int .i64 0, .int .i64 0, .slice none 0 0]) ?_ 0 _ rfl; (with_reducible repeat (first | refine blk_drewN ?_ _ | refine blk_drew ?_ | refine blk_alloc ?_ _)); exact BKAd.out⟩, ⟨pH_ HB.out⟩⟩
  rw [if_pos c39] at H
  have c39b0 : decide (0 < tAh) = true := decide_eq_true c39
  clear c39
  (first | rw [c39b0] | (simp only [i64_w, i32_w]; rw [c39b0]) | skip)
  replace H := Option.bind_eq_some_iff.mp H
  obtain ⟨tBw, A400, H⟩ := H
  try dsimp only at H
  have A40 := Aside0.mk A400
  clear A400
  have H' := Aside0.mk H
  clear H
  have hnb41 := NBAb_Ae.out
  have hnc41 := NBAe_Ab.out
  have hnb42 := NBAb_Af.out
  have hnc42 := NBAf_Ab.out
  have hnb43 := NBAb_Ad.out
  have hnc43 := NBAd_Ab.out
  obtain ⟨hcz44_0, hcz44_1, hcz44_2, hcz44_3, hcz44_4, hcz44_5⟩ := c6_ BKAb
  obtain ⟨hfz44_0, hfz44_1, hfz44_2, hfz44_3, hfz44_4, hfz44_5⟩ := f6_ BKAb
  go_wp2_with (first | ((with_reducible refine gate_callee (f := 39) rfl ?_); refine gL_ 47 Try.func39 #[.agg #[.int .i64 tAi, .int .i64 tAn, .int .i64 tAp, .int .i64 tAr, .int .i64 tAt, .slice Ao30 tAk.length co30], .int .i64 tAg] ?_; (with_reducible refine (plaitingref3_Wire.calls tAi tAn tAp tAr tAt _ _ tAk tAg tBw _ ?side1 ?side2 A40.out).mono ?_); (case side1 => refine (Kd.R_reads' (e := 3) (base := w.heap.size) (ok := fun k_ => True) (n := tAk.length) (c := co30) ?_).2.2; exact (by (with_reducible repeat (first | apply Kd.R_alloc | apply Kd.R_drewN | apply Kd.R_drew)); exact (Kd.R_mono (Kd.R_far (p := ⟨gbAd, 5, none⟩) (Kd.R_far (p := ⟨gbAd, 4, none⟩) (Kd.R_far (p := ⟨gbAd, 3, none⟩) (Kd.R_far (p := ⟨gbAd, 2, none⟩) (Kd.R_far (p := ⟨gbAd, 1, none⟩) (Kd.R_far (p := ⟨gbAd, 0, none⟩) (Kd.R_types HOBp.out BKAd.out (by decide)) (fun _ hk => hk.2) (.int .i64 tAj)) (fun _ hk => hk.2) (.int .i64 tBj)) (fun _ hk => hk.2) (.int .i64 tAx)) (fun _ hk => hk.2) (.int .i64 tBb)) (fun _ hk => hk.2) (.int .i64 tBe)) (fun _ hk => hk.2) (.slice Ao38 tAm.length co38)) (fun _ h_ => h_.1)))); (case side2 => exact (Kd.R_reads' HOBp.out).2.1); rintro e w45 ⟨rfl, hb⟩; refine ⟨_, rfl, ?_⟩; replace HOBp := Aside0.mk (Kd.R_below (by (with_reducible repeat (first | apply Kd.R_alloc | apply Kd.R_drewN | apply Kd.R_drew)); exact (Kd.R_mono (Kd.R_far (p := ⟨gbAd, 5, none⟩) (Kd.R_far (p := ⟨gbAd, 4, none⟩) (Kd.R_far (p := ⟨gbAd, 3, none⟩) (Kd.R_far (p := ⟨gbAd, 2, none⟩) (Kd.R_far (p := ⟨gbAd, 1, none⟩) (Kd.R_far (p := ⟨gbAd, 0, none⟩) (Kd.R_types HOBp.out BKAd.out (by decide)) (fun _ hk => hk.2) (.int .i64 tAj)) (fun _ hk => hk.2) (.int .i64 tBj)) (fun _ hk => hk.2) (.int .i64 tAx)) (fun _ hk => hk.2) (.int .i64 tBb)) (fun _ hk => hk.2) (.int .i64 tBe)) (fun _ hk => hk.2) (.slice Ao38 tAm.length co38)) (fun _ h_ => h_.1))) hb); replace HOCa := Aside0.mk (Kd.R_below (by (with_reducible repeat (first | apply Kd.R_alloc | apply Kd.R_drewN | apply Kd.R_drew)); exact (Kd.R_mono (Kd.R_far (p := ⟨gbAd, 5, none⟩) (Kd.R_far (p := ⟨gbAd, 4, none⟩) (Kd.R_far (p := ⟨gbAd, 3, none⟩) (Kd.R_far (p := ⟨gbAd, 2, none⟩) (Kd.R_far (p := ⟨gbAd, 1, none⟩) (Kd.R_far (p := ⟨gbAd, 0, none⟩) (Kd.R_types HOCa.out BKAd.out (by decide)) (fun _ hk => hk.2) (.int .i64 tAj)) (fun _ hk => hk.2) (.int .i64 tBj)) (fun _ hk => hk.2) (.int .i64 tAx)) (fun _ hk => hk.2) (.int .i64 tBb)) (fun _ hk => hk.2) (.int .i64 tBe)) (fun _ hk => hk.2) (.slice Ao38 tAm.length co38)) (fun _ h_ => h_.1))) hb); replace BKAe := Aside0.mk (blk_below (g := gbAe) (o := .cells #[.int .i64 a0_0, .int .i64 a0_1, .int .i64 a0_2, .int .i64 a0_3, .int .i64 a0_4, .slice A0_5 l0_5.length c0_5] 24 (0, 0)) (bF_ BKAe.out NBAe_Ad.out) hb); replace BKAf := Aside0.mk (blk_below (g := gbAf) (o := .cells #[.int .i64 a1_0, .int .i64 a1_1, .int .i64 a1_2, .int .i64 a1_3, .int .i64 a1_4, .slice A1_5 l1_5.length c1_5] 29 (0, 0)) (bF_ BKAf.out NBAf_Ad.out) hb); replace BKAb := Aside0.mk (blk_below (g := gbAb) (o := .cells #[.int .i64 tAi, .int .i64 tAn, .int .i64 tAp, .int .i64 tAr, .int .i64 tAt, .slice Ao30 tAk.length co30] 24 (0, 0)) (bF_ BKAb.out NBAb_Ad.out) hb); replace BKAd := Aside0.mk (blk_below (g := gbAd) (o := .cells #[.int .i64 tAj, .int .i64 tBj, .int .i64 tAx, .int .i64 tBb, .int .i64 tBe, .slice Ao38 tAm.length co38] 29 (0, 0)) (by (with_reducible repeat (first | refine blk_drewN ?_ _ | refine blk_drew ?_ | refine blk_alloc ?_ _)); refine blk_put (cs := #[.int .i64 tAj, .int .i64 tBj, .int .i64 tAx, .int .i64 tBb, .int .i64 tBe, .slice none 0 0]) ?_ 5 _ rfl; refine blk_put (cs := #[.int .i64 tAj, .int .i64 tBj, .int .i64 tAx, .int .i64 tBb, .int .i64 0, .slice none 0 0]) ?_ 4 _ rfl; refine blk_put (cs := #[.int .i64 tAj, .int .i64 tBj, .int .i64 tAx, .int .i64 0, .int .i64 0, .slice none 0 0]) ?_ 3 _ rfl; refine blk_put (cs := #[.int .i64 tAj, .int .i64 tBj, .int .i64 0, .int .i64 0, .int .i64 0, .slice none 0 0]) ?_ 2 _ rfl; refine blk_put (cs := #[.int .i64 tAj, .int .i64 0, .int .i64 0, .int .i64 0, .int .i64 0, .slice none 0 0]) ?_ 1 _ rfl; refine blk_put (cs := #[.int .i64 0, .int .i64 0, .int .i64 0, .int .i64 0, .int .i64 0, .slice none 0 0]) ?_ 0 _ rfl; (with_reducible repeat (first | refine blk_drewN ?_ _ | refine blk_drew ?_ | refine blk_alloc ?_ _)); exact BKAd.out) hb); replace HB := bs_ HB hb; (try clear hb); (try clear hb2); (try clear hk); (try clear hi); have hnb46 := NBAd_Ae.out; have hnc46 := NBAe_Ad.out; have hnb47 := NBAd_Af.out; have hnc47 := NBAf_Ad.out; obtain ⟨hcz48_0, hcz48_1, hcz48_2, hcz48_3, hcz48_4, hcz48_5⟩ := c6_ BKAd; obtain ⟨hfz48_0, hfz48_1, hfz48_2, hfz48_3, hfz48_4, hfz48_5⟩ := f6_ BKAd))
  go_meet
  case rel => exact ⟨_, (tBw), H', ⟨by first | omega | exact Nat.le_refl _⟩, ⟨by (with_reducible repeat (first | apply Kd.R_alloc | apply Kd.R_drewN | apply Kd.R_drew)); exact Kd.R_mono (Kd.R_far (p := ⟨gbAd, 1, none⟩) (Kd.R_types HOBp.out BKAd.out (by decide)) (fun _ hk => hk.2) (.int .i64 tBw)) (fun _ hk => trivial)⟩, ⟨by (with_reducible repeat (first | apply Kd.R_alloc | apply Kd.R_drewN | apply Kd.R_drew)); exact Kd.R_mono (Kd.R_far (p := ⟨gbAd, 1, none⟩) (Kd.R_types HOCa.out BKAd.out (by decide)) (fun _ hk => hk.2) (.int .i64 tBw)) (fun _ hk => trivial)⟩, ⟨bF_ BKAe.out NBAe_Ad.out⟩, ⟨bF_ BKAf.out NBAf_Ad.out⟩, ⟨bF_ BKAb.out NBAb_Ad.out⟩, ⟨by (with_reducible repeat (first | refine blk_drewN ?_ _ | refine blk_drew ?_ | refine blk_alloc ?_ _)); refine blk_put (cs := #[.int .i64 tAj, .int .i64 tBj, .int .i64 tAx, .int .i64 tBb, .int .i64 tBe, .slice Ao38 tAm.length co38]) ?_ 1 _ rfl; (with_reducible repeat (first | refine blk_drewN ?_ _ | refine blk_drew ?_ | refine blk_alloc ?_ _)); exact BKAd.out⟩, ⟨pH_ HB.out⟩⟩
 case rest =>
  clear HC19
  try clear c1
  try clear c2
  try clear p2
  try clear c3
  try clear c4
  try clear c6
  try clear c10
  try clear c11
  try clear c11b0
  try clear c11b1
  try clear c13
  try clear c20
  try clear c21
  try clear c23
  try clear c27
  try clear c28
  try clear c34
  try clear c35
  try clear c36
  try clear c37
  try clear c38
  try clear c39
  try clear c39b0
  try clear c41
  try clear c42
  try clear c43
  try clear c46
  try clear c47
  try clear hcz24_0 hcz24_1 hcz24_2 hcz24_3 hcz24_4 hcz24_5
  try clear hcz29_0 hcz29_1 hcz29_2 hcz29_3 hcz29_4 hcz29_5
  try clear hcz31_0 hcz31_1 hcz31_2 hcz31_3 hcz31_4 hcz31_5
  try clear hcz37_0 hcz37_1 hcz37_2 hcz37_3 hcz37_4 hcz37_5
  try clear hcz44_0 hcz44_1 hcz44_2 hcz44_3 hcz44_4 hcz44_5
  try clear hcz48_0 hcz48_1 hcz48_2 hcz48_3 hcz48_4 hcz48_5
  try clear hfz24_0 hfz24_1 hfz24_2 hfz24_3 hfz24_4 hfz24_5
  try clear hfz29_0 hfz29_1 hfz29_2 hfz29_3 hfz29_4 hfz29_5
  try clear hfz31_0 hfz31_1 hfz31_2 hfz31_3 hfz31_4 hfz31_5
  try clear hfz37_0 hfz37_1 hfz37_2 hfz37_3 hfz37_4 hfz37_5
  try clear hfz44_0 hfz44_1 hfz44_2 hfz44_3 hfz44_4 hfz44_5
  try clear hfz48_0 hfz48_1 hfz48_2 hfz48_3 hfz48_4 hfz48_5
  obtain ⟨kq, x26123001_18, HA, HJ18, HO_Ag005, HO_Ah005, BKAe, BKAf, BKAb, BKAd, HB⟩ := hcut
  cases kq with
  | zero => exact absurd HA.out (by simp [plaitinglaw10_ArbRight.j0])
  | succ kj18 =>
   have H := HA.out
   clear HA
   simp only [plaitinglaw10_ArbRight.j0] at H
   replace H := Option.bind_eq_some_iff.mp H
   obtain ⟨tBq, A490, H⟩ := H
   try dsimp only at H
   have A49 := Aside0.mk A490
   clear A490
   replace H := Option.bind_eq_some_iff.mp H
   obtain ⟨tCe, A500, H⟩ := H
   try dsimp only at H
   have A50 := Aside0.mk A500
   clear A500
   replace H := Option.bind_eq_some_iff.mp H
   obtain ⟨tBx, A510, H⟩ := H
   try dsimp only at H
   have A51 := Aside0.mk A510
   clear A510
   replace H := Option.bind_eq_some_iff.mp H
   obtain ⟨tBy, A520, H⟩ := H
   try dsimp only at H
   have A52 := Aside0.mk A520
   clear A520
   obtain ⟨yAs, hyAs⟩ : ∃ y_ : List ByteArray, y_ = (([tBq, tBx, tBy, a7] : List ByteArray)) := ⟨_, rfl⟩
   replace H : (plaitinglaw10_ArbRight.l0 kj18 a4 tAg yAs 0 tAi tAn tAp tAr tAt tAk tAj x26123001_18 tAx tBb tBe tAm) = some r := by first | (rw [hyAs]; with_reducible exact H) | (have H2_ := (Option.bind_some _ _).symm.trans H; rw [hyAs]; with_reducible exact H2_) | (have H2_ := (Option.bind_some _ _).symm.trans H; with_reducible exact H2_) | with_reducible exact H | (rw [hyAs]; exact H) | exact H
   have NyAs := Aside0.mk hyAs
   clear hyAs
   have H' := Aside0.mk H
   clear H
   have hnb53 := NBAb_Ae.out
   have hnc53 := NBAe_Ab.out
   have hnb54 := NBAb_Af.out
   have hnc54 := NBAf_Ab.out
   have hnb55 := NBAb_Ad.out
   have hnc55 := NBAd_Ab.out
   obtain ⟨hcz56_0, hcz56_1, hcz56_2, hcz56_3, hcz56_4, hcz56_5⟩ := c6_ BKAb
   obtain ⟨hfz56_0, hfz56_1, hfz56_2, hfz56_3, hfz56_4, hfz56_5⟩ := f6_ BKAb
   have hnb57 := NBAd_Ae.out
   have hnc57 := NBAe_Ad.out
   have hnb58 := NBAd_Af.out
   have hnc58 := NBAf_Ad.out
   obtain ⟨hcz59_0, hcz59_1, hcz59_2, hcz59_3, hcz59_4, hcz59_5⟩ := c6_ BKAd
   obtain ⟨hfz59_0, hfz59_1, hfz59_2, hfz59_3, hfz59_4, hfz59_5⟩ := f6_ BKAd
   go_wp2_with (first | ((with_reducible refine gate_callee (f := 31) rfl ?_); refine gL_ 51 Try.func31 #[.agg #[.int .i64 tAi, .int .i64 tAn, .int .i64 tAp, .int .i64 tAr, .int .i64 tAt, .slice Ao30 tAk.length co30], .agg #[.int .i64 tAj, .int .i64 x26123001_18, .int .i64 tAx, .int .i64 tBb, .int .i64 tBe, .slice Ao38 tAm.length co38]] ?_; (with_reducible refine (plaitingref5_Text.calls kj18 tAi tAn tAp tAr tAt _ _ tAk tAj x26123001_18 tAx tBb tBe _ _ tAm tBq _ ?side1 ?side2 ?side3 ?side4 A49.out).mono ?_); (case side1 => exact cC_ (Kd.R_reads' HO_Ag005.out).2.2); (case side2 => exact (Kd.R_reads' HO_Ag005.out).2.1); (case side3 => exact cC_ (Kd.R_reads' HO_Ah005.out).2.2); (case side4 => exact (Kd.R_reads' HO_Ah005.out).2.1); rintro e w60 ⟨rfl, hb⟩; refine ⟨_, rfl, ?_⟩; replace HO_Ag005 := Aside0.mk (Kd.R_below (pR_ HO_Ag005.out) hb); replace HO_Ah005 := Aside0.mk (Kd.R_below (pR_ HO_Ah005.out) hb); replace BKAe := bb_ BKAe hb; replace BKAf := bb_ BKAf hb; replace BKAb := bb_ BKAb hb; replace BKAd := bb_ BKAd hb; replace HB := bs_ HB hb; (try clear hb); (try clear hb2); (try clear hk); (try clear hi)) | ((with_reducible refine gate_callee (f := 38) rfl ?_); refine gL_ 57 Try.func38 #[.int .i64 a5, .int .i64 (tBq.size : Int)] ?_; (with_reducible refine (plaitinglaw10_within.calls a5 (tBq.size : Int) tCe _ A50.out).mono ?_); rintro e w' ⟨rfl, ⟨nd, rfl⟩⟩; refine ⟨_, rfl, ?_⟩) | ((with_reducible refine gate_callee (f := 32) rfl ?_); refine gL_ 58 Try.func32 #[.string tBq, .int .i64 tCe] ?_; (with_reducible refine (plaitingref1_Turn.calls kj18 tBq tCe tBx _ A51.out).mono ?_); rintro e w' ⟨rfl, ⟨nd, rfl⟩⟩; refine ⟨_, rfl, ?_⟩) | ((with_reducible refine gate_callee (f := 33) rfl ?_); refine gL_ 60 Try.func33 #[.slice A6 l6.length c6] ?_; (with_reducible refine (plaitinglaw1_Text.calls kj18 _ _ l6 tBy _ ?side1 ?side2 A52.out).mono ?_); (case side1 => exact cC_ (Kd.C_below HR6.out (pH_ HB.out))); (case side2 => exact HC6.out); rintro e w61 ⟨rfl, hb⟩; refine ⟨_, rfl, ?_⟩; replace HO_Ag005 := Aside0.mk (Kd.R_below (pR_ HO_Ag005.out) hb); replace HO_Ah005 := Aside0.mk (Kd.R_below (pR_ HO_Ah005.out) hb); replace BKAe := bb_ BKAe hb; replace BKAf := bb_ BKAf hb; replace BKAb := bb_ BKAb hb; replace BKAd := bb_ BKAd hb; replace HB := bs_ HB hb; (try clear hb); (try clear hb2); (try clear hk); (try clear hi)) | ((with_reducible refine gate_dst (N := 62) rfl ?_); refine Kd.R_lit Kd.string _ 9 ?hg (N := 62) ?hd (xs := ([tBq, tBx, tBy, a7] : List ByteArray)) (inner := [.string tBq, .string tBx, .string tBy, .string a7]) (ok := fun _ => True) (okp := fun _ => True) ?hr ?hp (fun _ hk => hk) trivial (Below.refl _ _) (Nat.le_refl _) (by simp) ?_; (case hd => rfl); (case hg => rfl); (case hr => first | (go_simp; done) | (go_simp; rfl)); (case hp => exact (Reps.one (show Kd.M Kd.string _ _ _ tBq [.string tBq] from rfl) (Reps.one (show Kd.M Kd.string _ _ _ tBx [.string tBx] from rfl) (Reps.one (show Kd.M Kd.string _ _ _ tBy [.string tBy] from rfl) (Reps.one (show Kd.M Kd.string _ _ _ a7 [.string a7] from rfl) (Reps.none _ _)))))); intro vCh w62 ho63 hb hg_ hnew_; clear hg_ hnew_; (first | rw [← NyAs.out] at ho63 | (simp only [Int.reduceToNat] at ho63; rw [← NyAs.out] at ho63)); have HOCi := Aside0.mk (Kd.R_lower ho63 (below_size (pH_ HB.out))); replace HO_Ag005 := Aside0.mk (Kd.R_below (pR_ HO_Ag005.out) hb); replace HO_Ah005 := Aside0.mk (Kd.R_below (pR_ HO_Ah005.out) hb); replace BKAe := bb_ BKAe hb; replace BKAf := bb_ BKAf hb; replace BKAb := bb_ BKAb hb; replace BKAd := bb_ BKAd hb; replace HB := bs_ HB hb; clear hb ho63))
   go_loopg [22] kj18 (fun kq v22 w' => ∃ (x22_2 : Int), v22 = .int .i64 x22_2 ∧ Aside0 (plaitinglaw10_ArbRight.l0 kq a4 tAg yAs x22_2 tAi tAn tAp tAr tAt tAk tAj x26123001_18 tAx tBb tBe tAm = some r) ∧ Aside0 (kq ≤ kj18) ∧ Aside0 (Kd.R Kd.string 9 w' w.heap.size (fun _ => True) vCh yAs) ∧ Aside0 (Kd.R (Kd.int .i64) 3 w' w.heap.size (fun _ => True) (.slice Ao30 tAk.length co30) tAk) ∧ Aside0 (Kd.R k26 26 w' w.heap.size (fun _ => True) (.slice Ao38 tAm.length co38) tAm) ∧ Aside0 (w'.heap[gbAe]? = some (.cells #[.int .i64 a0_0, .int .i64 a0_1, .int .i64 a0_2, .int .i64 a0_3, .int .i64 a0_4, (.slice A0_5 l0_5.length c0_5)] 24 (0, 0))) ∧ Aside0 (w'.heap[gbAf]? = some (.cells #[.int .i64 a1_0, .int .i64 a1_1, .int .i64 a1_2, .int .i64 a1_3, .int .i64 a1_4, (.slice A1_5 l1_5.length c1_5)] 29 (0, 0))) ∧ Aside0 (w'.heap[gbAb]? = some (.cells #[.int .i64 tAi, .int .i64 tAn, .int .i64 tAp, .int .i64 tAr, .int .i64 tAt, (.slice Ao30 tAk.length co30)] 24 (0, 0))) ∧ Aside0 (w'.heap[gbAd]? = some (.cells #[.int .i64 tAj, .int .i64 x26123001_18, .int .i64 tAx, .int .i64 tBb, .int .i64 tBe, (.slice Ao38 tAm.length co38)] 29 (0, 0))) ∧ Aside0 (Below w.heap.size w w'))
   case atStart => exact ⟨(0), (by first | rfl | (simp; done) | (simp [*]; done)), H', ⟨Nat.le_refl _⟩, ⟨by (with_reducible repeat (first | apply Kd.R_alloc | apply Kd.R_drewN | apply Kd.R_drew)); exact HOCi.out⟩, ⟨by (with_reducible repeat (first | apply Kd.R_alloc | apply Kd.R_drewN | apply Kd.R_drew)); exact HO_Ag005.out⟩, ⟨by (with_reducible repeat (first | apply Kd.R_alloc | apply Kd.R_drewN | apply Kd.R_drew)); exact HO_Ah005.out⟩, ⟨pB_ BKAe.out⟩, ⟨pB_ BKAf.out⟩, ⟨pB_ BKAb.out⟩, ⟨pB_ BKAd.out⟩, ⟨pH_ HB.out⟩⟩
   case round =>
    clear H'
    try clear c1
    try clear c2
    try clear p2
    try clear c3
    try clear c4
    try clear c5
    try clear c6
    try clear c10
    try clear c11
    try clear c11b0
    try clear c11b1
    try clear c13
    try clear c20
    try clear c21
    try clear c23
    try clear c27
    try clear c28
    try clear c31
    try clear c32
    try clear c33
    try clear c34
    try clear c35
    try clear c36
    try clear c37
    try clear c38
    try clear c39
    try clear c39b0
    try clear c41
    try clear c42
    try clear c43
    try clear c46
    try clear c47
    try clear c53
    try clear c54
    try clear c55
    try clear c57
    try clear c58
    try clear hcz24_0 hcz24_1 hcz24_2 hcz24_3 hcz24_4 hcz24_5
    try clear hcz29_0 hcz29_1 hcz29_2 hcz29_3 hcz29_4 hcz29_5
    try clear hcz31_0 hcz31_1 hcz31_2 hcz31_3 hcz31_4 hcz31_5
    try clear hcz37_0 hcz37_1 hcz37_2 hcz37_3 hcz37_4 hcz37_5
    try clear hcz44_0 hcz44_1 hcz44_2 hcz44_3 hcz44_4 hcz44_5
    try clear hcz48_0 hcz48_1 hcz48_2 hcz48_3 hcz48_4 hcz48_5
    try clear hcz56_0 hcz56_1 hcz56_2 hcz56_3 hcz56_4 hcz56_5
    try clear hcz59_0 hcz59_1 hcz59_2 hcz59_3 hcz59_4 hcz59_5
    try clear hfz24_0 hfz24_1 hfz24_2 hfz24_3 hfz24_4 hfz24_5
    try clear hfz29_0 hfz29_1 hfz29_2 hfz29_3 hfz29_4 hfz29_5
    try clear hfz31_0 hfz31_1 hfz31_2 hfz31_3 hfz31_4 hfz31_5
    try clear hfz37_0 hfz37_1 hfz37_2 hfz37_3 hfz37_4 hfz37_5
    try clear hfz44_0 hfz44_1 hfz44_2 hfz44_3 hfz44_4 hfz44_5
    try clear hfz48_0 hfz48_1 hfz48_2 hfz48_3 hfz48_4 hfz48_5
    try clear hfz56_0 hfz56_1 hfz56_2 hfz56_3 hfz56_4 hfz56_5
    try clear hfz59_0 hfz59_1 hfz59_2 hfz59_3 hfz59_4 hfz59_5
    try clear p2
    obtain ⟨x22_2, rfl, HA, HK2, HO_21, HO_Ag005, HO_Ah005, BKAe, BKAf, BKAb, BKAd, HB⟩ := hrel
    cases gk with
    | zero => exact absurd HA.out (by simp [plaitinglaw10_ArbRight.l0])
    | succ k2 =>
     have H := HA.out
     clear HA
     simp only [plaitinglaw10_ArbRight.l0] at H
     by_cases c64 : x22_2 < 4
     rotate_left
     ·
      rw [if_neg c64] at H
      have c64b0 : decide (x22_2 < 4) = false := decide_eq_false c64
      clear c64
      obtain rfl := Option.some.inj H
      go_wp2
      go_ret
      exact ⟨by first | rfl | (simp [errW_none, errW_some] <;> rfl) | (simp [*, errW_none, errW_some] <;> rfl), pH_ HB.out⟩
     rw [if_pos c64] at H
     have c64b0 : decide (x22_2 < 4) = true := decide_eq_true c64
     clear c64
     have H' := Aside0.mk H
     clear H
     go_wp2
     go_loopg [23] k2 (fun kq v23 w' => ∃ (x23_3 : Int), v23 = .int .i64 x23_3 ∧ Aside0 (plaitinglaw10_ArbRight.l1 kq a4 tAg yAs x22_2 x23_3 tAi tAn tAp tAr tAt tAk tAj x26123001_18 tAx tBb tBe tAm = some r) ∧ Aside0 (kq ≤ k2) ∧ Aside0 (Kd.R Kd.string 9 w' w.heap.size (fun _ => True) vCh yAs) ∧ Aside0 (Kd.R (Kd.int .i64) 3 w' w.heap.size (fun _ => True) (.slice Ao30 tAk.length co30) tAk) ∧ Aside0 (Kd.R k26 26 w' w.heap.size (fun _ => True) (.slice Ao38 tAm.length co38) tAm) ∧ Aside0 (w'.heap[gbAe]? = some (.cells #[.int .i64 a0_0, .int .i64 a0_1, .int .i64 a0_2, .int .i64 a0_3, .int .i64 a0_4, (.slice A0_5 l0_5.length c0_5)] 24 (0, 0))) ∧ Aside0 (w'.heap[gbAf]? = some (.cells #[.int .i64 a1_0, .int .i64 a1_1, .int .i64 a1_2, .int .i64 a1_3, .int .i64 a1_4, (.slice A1_5 l1_5.length c1_5)] 29 (0, 0))) ∧ Aside0 (w'.heap[gbAb]? = some (.cells #[.int .i64 tAi, .int .i64 tAn, .int .i64 tAp, .int .i64 tAr, .int .i64 tAt, (.slice Ao30 tAk.length co30)] 24 (0, 0))) ∧ Aside0 (w'.heap[gbAd]? = some (.cells #[.int .i64 tAj, .int .i64 x26123001_18, .int .i64 tAx, .int .i64 tBb, .int .i64 tBe, (.slice Ao38 tAm.length co38)] 29 (0, 0))) ∧ Aside0 (Below w.heap.size w w'))
     case atStart => exact ⟨(0), (by first | rfl | (simp; done) | (simp [*]; done)), H', ⟨Nat.le_refl _⟩, ⟨by (with_reducible repeat (first | apply Kd.R_alloc | apply Kd.R_drewN | apply Kd.R_drew)); exact HO_21.out⟩, ⟨by (with_reducible repeat (first | apply Kd.R_alloc | apply Kd.R_drewN | apply Kd.R_drew)); exact HO_Ag005.out⟩, ⟨by (with_reducible repeat (first | apply Kd.R_alloc | apply Kd.R_drewN | apply Kd.R_drew)); exact HO_Ah005.out⟩, ⟨pB_ BKAe.out⟩, ⟨pB_ BKAf.out⟩, ⟨pB_ BKAb.out⟩, ⟨pB_ BKAd.out⟩, ⟨pH_ HB.out⟩⟩
     case round =>
      clear H'
      try clear c1
      try clear c2
      try clear p2
      try clear c3
      try clear c4
      try clear c5
      try clear c6
      try clear c10
      try clear c11
      try clear c11b0
      try clear c11b1
      try clear c13
      try clear c20
      try clear c21
      try clear c23
      try clear c27
      try clear c28
      try clear c31
      try clear c32
      try clear c33
      try clear c34
      try clear c35
      try clear c36
      try clear c37
      try clear c38
      try clear c39
      try clear c39b0
      try clear c41
      try clear c42
      try clear c43
      try clear c46
      try clear c47
      try clear c53
      try clear c54
      try clear c55
      try clear c57
      try clear c58
      try clear c64
      try clear c64b0
      try clear hcz24_0 hcz24_1 hcz24_2 hcz24_3 hcz24_4 hcz24_5
      try clear hcz29_0 hcz29_1 hcz29_2 hcz29_3 hcz29_4 hcz29_5
      try clear hcz31_0 hcz31_1 hcz31_2 hcz31_3 hcz31_4 hcz31_5
      try clear hcz37_0 hcz37_1 hcz37_2 hcz37_3 hcz37_4 hcz37_5
      try clear hcz44_0 hcz44_1 hcz44_2 hcz44_3 hcz44_4 hcz44_5
      try clear hcz48_0 hcz48_1 hcz48_2 hcz48_3 hcz48_4 hcz48_5
      try clear hcz56_0 hcz56_1 hcz56_2 hcz56_3 hcz56_4 hcz56_5
      try clear hcz59_0 hcz59_1 hcz59_2 hcz59_3 hcz59_4 hcz59_5
      try clear hfz24_0 hfz24_1 hfz24_2 hfz24_3 hfz24_4 hfz24_5
      try clear hfz29_0 hfz29_1 hfz29_2 hfz29_3 hfz29_4 hfz29_5
      try clear hfz31_0 hfz31_1 hfz31_2 hfz31_3 hfz31_4 hfz31_5
      try clear hfz37_0 hfz37_1 hfz37_2 hfz37_3 hfz37_4 hfz37_5
      try clear hfz44_0 hfz44_1 hfz44_2 hfz44_3 hfz44_4 hfz44_5
      try clear hfz48_0 hfz48_1 hfz48_2 hfz48_3 hfz48_4 hfz48_5
      try clear hfz56_0 hfz56_1 hfz56_2 hfz56_3 hfz56_4 hfz56_5
      try clear hfz59_0 hfz59_1 hfz59_2 hfz59_3 hfz59_4 hfz59_5
      try clear p2
      obtain ⟨x23_3, rfl, HA, HK3, HO_21, HO_Ag005, HO_Ah005, BKAe, BKAf, BKAb, BKAd, HB⟩ := hrel
      cases gk with
      | zero => exact absurd HA.out (by simp [plaitinglaw10_ArbRight.l1])
      | succ k3 =>
       have H := HA.out
       clear HA
       simp only [plaitinglaw10_ArbRight.l1] at H
       by_cases c65 : x23_3 < 2
       rotate_left
       ·
        rw [if_neg c65] at H
        have c65b0 : decide (x23_3 < 2) = false := decide_eq_false c65
        clear c65
        have H' := Aside0.mk H
        clear H
        go_wp2
        go_roundg k3
        case measure => have := HJ18.out; have := HK2.out; have := HK3.out; omega
        case rel => exact ⟨(wrap64 (x22_2 + 1)), (by first | rfl | (simp; done) | (simp [*]; done)), H', ⟨by have := HJ18.out; have := HK2.out; have := HK3.out; omega⟩, ⟨by (with_reducible repeat (first | apply Kd.R_alloc | apply Kd.R_drewN | apply Kd.R_drew)); exact HO_21.out⟩, ⟨by (with_reducible repeat (first | apply Kd.R_alloc | apply Kd.R_drewN | apply Kd.R_drew)); exact HO_Ag005.out⟩, ⟨by (with_reducible repeat (first | apply Kd.R_alloc | apply Kd.R_drewN | apply Kd.R_drew)); exact HO_Ah005.out⟩, ⟨pB_ BKAe.out⟩, ⟨pB_ BKAf.out⟩, ⟨pB_ BKAb.out⟩, ⟨pB_ BKAd.out⟩, ⟨pH_ HB.out⟩⟩
       rw [if_pos c65] at H
       have c65b0 : decide (x23_3 < 2) = true := decide_eq_true c65
       clear c65
       replace H := Option.bind_eq_some_iff.mp H
       obtain ⟨tCf, A660, H⟩ := H
       try dsimp only at H
       have A66 := Aside0.mk A660
       clear A660
       replace H := Option.bind_eq_some_iff.mp H
       obtain ⟨tBz, A670, H⟩ := H
       try dsimp only at H
       have A67 := Aside0.mk A670
       clear A670
       obtain ⟨yAu, hyAu⟩ : ∃ y_ : List Int, y_ = (([tAx, tBz] : List Int)) := ⟨_, rfl⟩
       replace H : (if 0 ≤ x23_3 then (if x23_3 < (yAu.length : Int) then (if 0 ≤ x22_2 then (if x22_2 < (yAs.length : Int) then ((arb_Right.f tAi tAn tAp tAr tAt tAk tAg (rd yAu x23_3) (rdOf ByteArray.empty yAs x22_2)).bind fun btAq => ((plaitingref10_Right.f k3 tAi tAn tAp tAr tAt tAk tAg (rd yAu x23_3) (rdOf ByteArray.empty yAs x22_2)).bind fun btAy => (if (btAq.2.2.2.2.2.2 != btAy.2.2.2.2.2.2) = true then (some false) else ((plaitingref5_Same.f k3 btAq.1 btAq.2.1 btAq.2.2.1 btAq.2.2.2.1 btAq.2.2.2.2.1 btAq.2.2.2.2.2.1 btAy.1 btAy.2.1 btAy.2.2.1 btAy.2.2.2.1 btAy.2.2.2.2.1 btAy.2.2.2.2.2.1).bind fun tCg => (if tCg = true then (plaitinglaw10_ArbRight.l1 k3 a4 tAg yAs x22_2 (wrap64 (x23_3 + 1)) tAi tAn tAp tAr tAt tAk tAj x26123001_18 tAx tBb tBe tAm) else (some false)))))) else (none)) else (none)) else (none)) else (none)) = some r := by first | (rw [hyAu]; with_reducible exact H) | (have H2_ := (Option.bind_some _ _).symm.trans H; rw [hyAu]; with_reducible exact H2_) | (have H2_ := (Option.bind_some _ _).symm.trans H; with_reducible exact H2_) | with_reducible exact H | (rw [hyAu]; exact H) | exact H
       have NyAu := Aside0.mk hyAu
       clear hyAu
       by_cases c68 : 0 ≤ x23_3
       rotate_left
       ·
        rw [if_neg c68] at H
        exact absurd H (by simp)
       rw [if_pos c68] at H
       have c68b0 : decide (0 ≤ x23_3) = true := decide_eq_true c68
       clear c68
       by_cases c69 : x23_3 < (yAu.length : Int)
       rotate_left
       ·
        rw [if_neg c69] at H
        exact absurd H (by simp)
       rw [if_pos c69] at H
       have c69b0 : decide (x23_3 < (yAu.length : Int)) = true := decide_eq_true c69
       clear c69
       by_cases c70 : 0 ≤ x22_2
       rotate_left
       ·
        rw [if_neg c70] at H
        exact absurd H (by simp)
       rw [if_pos c70] at H
       have c70b0 : decide (0 ≤ x22_2) = true := decide_eq_true c70
       clear c70
       by_cases c71 : x22_2 < (yAs.length : Int)
       rotate_left
       ·
        rw [if_neg c71] at H
        exact absurd H (by simp)
       rw [if_pos c71] at H
       have c71b0 : decide (x22_2 < (yAs.length : Int)) = true := decide_eq_true c71
       clear c71
       replace H := Option.bind_eq_some_iff.mp H
       obtain ⟨⟨tAq, tBa, tBc, tBd, tBf, tAw, tBs⟩, A720, H⟩ := H
       try dsimp only at H
       have A72 := Aside0.mk A720
       clear A720
       replace H := Option.bind_eq_some_iff.mp H
       obtain ⟨⟨tAy, tBh, tBi, tBk, tBm, tBn, tBt⟩, A730, H⟩ := H
       try dsimp only at H
       have A73 := Aside0.mk A730
       clear A730
       by_cases c74 : (tBs != tBt) = true
       ·
        rw [if_pos c74] at H
        have c74b0 : (tBs != tBt) = true := c74
        (try (have c74b1 : decide (tBs = tBt) = false := by simpa using c74))
        (try (have c74b2 : (tBs == tBt) = false := by simpa using c74))
        (try (have c74b3 : ¬ (tBs = tBt) := by simpa using c74))
        clear c74
        exact absurd ((Option.some.inj H).trans HRT.out) (by decide)
       rw [if_neg c74] at H
       have c74b0 : (tBs != tBt) = false := by simpa using c74
       (try (have c74b1 : decide (tBs = tBt) = true := by simpa using c74))
       (try (have c74b2 : (tBs == tBt) = true := by simpa using c74))
       clear c74
       replace H := Option.bind_eq_some_iff.mp H
       obtain ⟨tCg, A750, H⟩ := H
       try dsimp only at H
       have A75 := Aside0.mk A750
       clear A750
       by_cases c76 : tCg = true
       rotate_left
       ·
        replace c76 := Bool.eq_false_iff.mpr c76
        subst c76
        have H1 : (some false) = some r := by rw [if_neg (show ¬ (false = true) by decide)] at H; exact H
        clear H
        have H := H1
        clear H1
        exact absurd ((Option.some.inj H).trans HRT.out) (by decide)
       subst c76
       have H1 : (plaitinglaw10_ArbRight.l1 k3 a4 tAg yAs x22_2 (wrap64 (x23_3 + 1)) tAi tAn tAp tAr tAt tAk tAj x26123001_18 tAx tBb tBe tAm) = some r := by rw [if_pos rfl] at H; exact H
       clear H
       have H := H1
       clear H1
       have H' := Aside0.mk H
       clear H
       try go_wp2
       have piBv : (0 ≤ (x23_3 : Int)) = True := eq_true (of_decide_eq_true (by first | (with_reducible assumption) | assumption))
       have qiBv : (x23_3 < (yAu.length : Int)) = True := eq_true (of_decide_eq_true (by first | (with_reducible assumption) | assumption))
       replace HO_21 := Aside0.mk (Kd.R_drew HO_21.out)
       replace HO_Ag005 := Aside0.mk (Kd.R_drew HO_Ag005.out)
       replace HO_Ah005 := Aside0.mk (Kd.R_drew HO_Ah005.out)
       replace BKAe := Aside0.mk (blk_drew BKAe.out)
       replace BKAf := Aside0.mk (blk_drew BKAf.out)
       replace BKAb := Aside0.mk (blk_drew BKAb.out)
       replace BKAd := Aside0.mk (blk_drew BKAd.out)
       replace HB := Aside0.mk (below_drew1 HB.out)
       refine start_ (n := 11) (S := fun w' => w'.cell? ⟨gbAd, 0, none⟩ = some (.int .i64 tAj) ∧ w'.cell? ⟨gbAd, 1, none⟩ = some (.int .i64 x26123001_18) ∧ w'.cell? ⟨gbAd, 2, none⟩ = some (.int .i64 tAx) ∧ w'.cell? ⟨gbAd, 3, none⟩ = some (.int .i64 tBb) ∧ w'.cell? ⟨gbAd, 4, none⟩ = some (.int .i64 tBe) ∧ w'.cell? ⟨gbAd, 5, none⟩ = some (.slice Ao38 tAm.length co38) ∧ w'.cell? ⟨gbAb, 0, none⟩ = some (.int .i64 tAi) ∧ w'.cell? ⟨gbAb, 1, none⟩ = some (.int .i64 tAn) ∧ w'.cell? ⟨gbAb, 2, none⟩ = some (.int .i64 tAp) ∧ w'.cell? ⟨gbAb, 3, none⟩ = some (.int .i64 tAr) ∧ w'.cell? ⟨gbAb, 4, none⟩ = some (.int .i64 tAt) ∧ w'.cell? ⟨gbAb, 5, none⟩ = some (.slice Ao30 tAk.length co30)) (ds := []) #[false, false, false, false, false, false, false, false, false, false, false] (by kernel_rfl) rfl rfl ⟨bc_ BKAd 0, bc_ BKAd 1, bc_ BKAd 2, bc_ BKAd 3, bc_ BKAd 4, bc_ BKAd 5, bc_ BKAb 0, bc_ BKAb 1, bc_ BKAb 2, bc_ BKAb 3, bc_ BKAb 4, bc_ BKAb 5⟩ (fun hHeld => ?_); refine with_tabW plaitinglaw10_ArbRight.tab18 plaitinglaw10_ArbRight.bits18 (fun HT_ HW_ => ?_)
       generalize wr.drew = w77 at HO_21 HO_Ag005 HO_Ah005 BKAe BKAf BKAb BKAd HB hHeld ⊢
       refine pq_ 0 71 HT_ ?_
       refine pq_ 2 73 HT_ ?_
       refine pq_ 7 78 HT_ ?_
       refine tq_ 1 72 HT_ HW_ hHeld ?_
       refine tq_ 3 74 HT_ HW_ hHeld ?_
       refine oq_ 4 75 HT_ (fun K hK => ?_)
       refine gs_ Try.func25 #[.agg #[.int .i64 tAi, .int .i64 tAn, .int .i64 tAp, .int .i64 tAr, .int .i64 tAt, .slice Ao30 tAk.length co30]] ?_
       with_reducible refine (plaitingref3_Slots.calls tAi tAn tAp tAr tAt _ _ tAk tCf _ ?side1 ?side2 A66.out).mono ?_
       (case side1 => exact cC_ (Kd.R_reads' HO_Ag005.out).2.2)
       (case side2 => exact (Kd.R_reads' HO_Ag005.out).2.1)
       rintro e w78 ⟨rfl, hb⟩
       refine ⟨_, rfl, ?_⟩
       replace HO_21 := Aside0.mk (Kd.R_below (pR_ HO_21.out) hb)
       replace HO_Ag005 := Aside0.mk (Kd.R_below (pR_ HO_Ag005.out) hb)
       replace HO_Ah005 := Aside0.mk (Kd.R_below (pR_ HO_Ah005.out) hb)
       replace BKAe := bb_ BKAe hb
       replace BKAf := bb_ BKAf hb
       replace BKAb := bb_ BKAb hb
       replace BKAd := bb_ BKAd hb
       replace HB := bs_ HB hb
       (try clear hb)
       (try clear hb2)
       (try clear hk)
       (try clear hi)
       refine hK.out _ _ ⟨bc_ BKAd 0, bc_ BKAd 1, bc_ BKAd 2, bc_ BKAd 3, bc_ BKAd 4, bc_ BKAd 5, bc_ BKAb 0, bc_ BKAb 1, bc_ BKAb 2, bc_ BKAb 3, bc_ BKAb 4, bc_ BKAb 5⟩ (fun hHeld => ?_)
       clear hK K
       refine nq_ 75 ?_
       refine oq_ 5 76 HT_ (fun K hK => ?_)
       refine gs_ Try.func38 #[.int .i64 a4, .int .i64 tCf] ?_
       with_reducible refine (plaitinglaw10_within.calls a4 tCf tBz _ A67.out).mono ?_
       rintro e w' ⟨rfl, ⟨nd, rfl⟩⟩
       refine ⟨_, rfl, ?_⟩
       refine hK.out _ _ ⟨bc_ BKAd 0, bc_ BKAd 1, bc_ BKAd 2, bc_ BKAd 3, bc_ BKAd 4, bc_ BKAd 5, bc_ BKAb 0, bc_ BKAb 1, bc_ BKAb 2, bc_ BKAb 3, bc_ BKAb 4, bc_ BKAb 5⟩ (fun hHeld => ?_)
       clear hK K
       refine nq_ 76 ?_
       refine oq_ 6 77 HT_ (fun K hK => ?_)
       refine Kd.R_lit_step (Kd.int .i64) _ 3 ?hg (N := 77) ?hd (xs := ([tAx, tBz] : List Int)) (inner := [.int .i64 tAx, .int .i64 tBz]) (ok := fun _ => True) (okp := fun _ => True) ?hr ?hp (fun _ hk => hk) trivial (Below.refl _ _) (Nat.le_refl _) (by simp) ?_; (case hd => rfl); (case hg => rfl); (case hr => first | (go_simp; done) | (go_simp; rfl)); (case hp => exact (Reps.one (show Kd.M (Kd.int .i64) _ _ _ tAx [.int .i64 tAx] from rfl) (Reps.one (show Kd.M (Kd.int .i64) _ _ _ tBz [.int .i64 tBz] from rfl) (Reps.none _ _))))
       intro vCm w79 ho80 hb hg_ hnew_
       clear hg_ hnew_
       (first | rw [← NyAu.out] at ho80 | (simp only [Int.reduceToNat] at ho80; rw [← NyAu.out] at ho80))
       have HOAv := Aside0.mk (Kd.R_lower (Kd.R_new' ho80 (Kd.R_lt (pR_ HO_Ag005.out))) (below_size (pH_ HB.out)))
       replace HO_21 := Aside0.mk (Kd.R_below (pR_ HO_21.out) hb)
       replace HO_Ag005 := Aside0.mk (Kd.R_elder' (pR_ HO_Ag005.out) (Kd.R_base ho80) hb)
       replace HO_Ah005 := Aside0.mk (Kd.R_below (pR_ HO_Ah005.out) hb)
       replace BKAe := bb_ BKAe hb
       replace BKAf := bb_ BKAf hb
       replace BKAb := bb_ BKAb hb
       replace BKAd := bb_ BKAd hb
       replace HB := bs_ HB hb
       clear hb ho80
       obtain ⟨Ao81, co81, eo81⟩ := Kd.R_slice HOAv.out
       subst eo81
       obtain ⟨ado81, fo81, _⟩ := Kd.at_int (Kd.R_reads' HOAv.out).2.2 0 (by decide) (by rw [NyAu.out]; simp)
       cases fo81
       refine hK.out _ _ ⟨bc_ BKAd 0, bc_ BKAd 1, bc_ BKAd 2, bc_ BKAd 3, bc_ BKAd 4, bc_ BKAd 5, bc_ BKAb 0, bc_ BKAb 1, bc_ BKAb 2, bc_ BKAb 3, bc_ BKAb 4, bc_ BKAb 5⟩ (fun hHeld => ?_)
       clear hK K
       refine nq_ 77 ?_
       refine pq_ 8 79 HT_ ?_
       refine oq_ 9 80 HT_ (fun K hK => ?_)
       (have pBv : 0 ≤ (x23_3 : Int) := of_decide_eq_true (by first | (with_reducible assumption) | assumption); have qBv : x23_3 < (yAu.length : Int) := of_decide_eq_true (by first | (with_reducible assumption) | assumption); obtain ⟨adBv, eBv, hxBv_0⟩ := Kd.at_int (Kd.R_reads' HOAv.out).2.2 x23_3 pBv qBv; obtain rfl : ado81 = adBv := (by injection eBv))
       refine value_ (w1 := ?_) (v := ?_) (by rfl) rfl ?_ ?_
       rotate_left 2
       ·
        go_simp
        constructor
        · rfl
        rfl
       clear hxBv_0
       refine hK.out _ _ ⟨bc_ BKAd 0, bc_ BKAd 1, bc_ BKAd 2, bc_ BKAd 3, bc_ BKAd 4, bc_ BKAd 5, bc_ BKAb 0, bc_ BKAb 1, bc_ BKAb 2, bc_ BKAb 3, bc_ BKAb 4, bc_ BKAb 5⟩ (fun hHeld => ?_)
       clear hK K
       refine nq_ 80 ?_
       refine pq_ 10 24 HT_ ?_
       refine done_ (done_of HT_.out (by kernel_rfl)) ?_
       try go_wp2
       replace HO_21 := Aside0.mk (Kd.R_drew HO_21.out)
       replace HO_Ag005 := Aside0.mk (Kd.R_drew HO_Ag005.out)
       replace HO_Ah005 := Aside0.mk (Kd.R_drew HO_Ah005.out)
       replace HOAv := Aside0.mk (Kd.R_drew HOAv.out)
       replace BKAe := Aside0.mk (blk_drew BKAe.out)
       replace BKAf := Aside0.mk (blk_drew BKAf.out)
       replace BKAb := Aside0.mk (blk_drew BKAb.out)
       replace BKAd := Aside0.mk (blk_drew BKAd.out)
       replace HB := Aside0.mk (below_drew1 HB.out)
       obtain ⟨Ao83, co83, eo83⟩ := Kd.R_slice HO_21.out
       (first | subst eo83 | (injection eo83 with f1_ f2_ f3_; have f4_ := f1_.symm; have f5_ := f3_.symm; clear f1_ f2_ f3_; subst f4_; subst f5_))
       have pBg : 0 ≤ (x22_2 : Int) := of_decide_eq_true (by first | (with_reducible assumption) | assumption)
       have qBg : x22_2 < (yAs.length : Int) := of_decide_eq_true (by first | (with_reducible assumption) | assumption)
       obtain ⟨adBg, eBg, hxBg_0⟩ := Kd.at_string (Kd.R_reads' HO_21.out).2.2 x22_2 pBg qBg
       cases eBg
       replace pBg := eq_true pBg
       replace qBg := eq_true qBg
       refine start_ (n := 14) (S := fun w' => w'.cell? ⟨gbAb, 0, none⟩ = some (.int .i64 tAi) ∧ w'.cell? ⟨gbAb, 1, none⟩ = some (.int .i64 tAn) ∧ w'.cell? ⟨gbAb, 2, none⟩ = some (.int .i64 tAp) ∧ w'.cell? ⟨gbAb, 3, none⟩ = some (.int .i64 tAr) ∧ w'.cell? ⟨gbAb, 4, none⟩ = some (.int .i64 tAt) ∧ w'.cell? ⟨gbAb, 5, none⟩ = some (.slice Ao30 tAk.length co30) ∧ w'.cell? (adBg.add (x22_2).toNat) = some (.string (rdOf ByteArray.empty yAs x22_2))) (ds := []) #[false, false, false, false, false, false, false, false, false, false, false, false, false, false] (by kernel_rfl) rfl rfl ⟨bc_ BKAb 0, bc_ BKAb 1, bc_ BKAb 2, bc_ BKAb 3, bc_ BKAb 4, bc_ BKAb 5, hxBg_0⟩ (fun hHeld => ?_); refine with_tabW plaitinglaw10_ArbRight.tab19 plaitinglaw10_ArbRight.bits19 (fun HT_ HW_ => ?_)
       generalize w79.drew = w82 at HO_21 HO_Ag005 HO_Ah005 HOAv BKAe BKAf BKAb BKAd HB hxBg_0 hHeld ⊢
       refine pq_ 1 83 HT_ ?_
       refine pq_ 2 84 HT_ ?_
       refine pq_ 3 85 HT_ ?_
       refine pq_ 4 86 HT_ ?_
       refine pq_ 5 87 HT_ ?_
       refine tq_ 0 82 HT_ HW_ hHeld ?_
       refine tq_ 6 88 HT_ HW_ hHeld ?_
       refine join_ (σ := Value × Nat) 2 #[true, true, true, true, true, true, true, true, true, true, true, true, false, false] (fun s_ => [(89, .tuple #[.agg #[.int .i64 tAq, .int .i64 tBa, .int .i64 tBc, .int .i64 tBd, .int .i64 tBf, s_.1], .bool tBs]), (25, .pointer (some ⟨s_.2, 0, none⟩)), (81, .tuple #[.agg #[.int .i64 tAq, .int .i64 tBa, .int .i64 tBc, .int .i64 tBd, .int .i64 tBf, s_.1], .bool tBs]), (90, .agg #[.int .i64 tAq, .int .i64 tBa, .int .i64 tBc, .int .i64 tBd, .int .i64 tBf, s_.1]), (91, .bool tBs)]) (fun s_ w' => (w'.cell? ⟨gbAb, 0, none⟩ = some (.int .i64 tAi) ∧ w'.cell? ⟨gbAb, 1, none⟩ = some (.int .i64 tAn) ∧ w'.cell? ⟨gbAb, 2, none⟩ = some (.int .i64 tAp) ∧ w'.cell? ⟨gbAb, 3, none⟩ = some (.int .i64 tAr) ∧ w'.cell? ⟨gbAb, 4, none⟩ = some (.int .i64 tAt) ∧ w'.cell? ⟨gbAb, 5, none⟩ = some (.slice Ao30 tAk.length co30) ∧ w'.cell? (adBg.add (x22_2).toNat) = some (.string (rdOf ByteArray.empty yAs x22_2))) ∧ (Kd.R (Kd.int .i64) 3 w' w.heap.size (fun k_ => some k_ ≠ (.slice Ao30 tAk.length co30 : Value).ownBlock) (.slice (some ado81) yAu.length co81) yAu) ∧ (Kd.R k26 26 w' w.heap.size (fun k_ => some k_ ≠ (.slice Ao38 tAm.length co38 : Value).ownBlock) s_.1 tAw) ∧ (Kd.R Kd.string 9 w' w.heap.size (fun _ => True) (.slice (some adBg) yAs.length co83) yAs) ∧ (Kd.R (Kd.int .i64) 3 w' w.heap.size (fun k_ => some k_ ≠ (.slice (some ado81) yAu.length co81 : Value).ownBlock) (.slice Ao30 tAk.length co30) tAk) ∧ (Kd.R k26 26 w' w.heap.size (fun k_ => some k_ ≠ (s_.1 : Value).ownBlock) (.slice Ao38 tAm.length co38) tAm) ∧ (w'.heap[gbAe]? = some (.cells #[.int .i64 a0_0, .int .i64 a0_1, .int .i64 a0_2, .int .i64 a0_3, .int .i64 a0_4, .slice A0_5 l0_5.length c0_5] 24 (0, 0))) ∧ (w'.heap[gbAf]? = some (.cells #[.int .i64 a1_0, .int .i64 a1_1, .int .i64 a1_2, .int .i64 a1_3, .int .i64 a1_4, .slice A1_5 l1_5.length c1_5] 29 (0, 0))) ∧ (w'.heap[gbAb]? = some (.cells #[.int .i64 tAi, .int .i64 tAn, .int .i64 tAp, .int .i64 tAr, .int .i64 tAt, .slice Ao30 tAk.length co30] 24 (0, 0))) ∧ (w'.heap[gbAd]? = some (.cells #[.int .i64 tAj, .int .i64 x26123001_18, .int .i64 tAx, .int .i64 tBb, .int .i64 tBe, .slice Ao38 tAm.length co38] 29 (0, 0))) ∧ (w'.heap[s_.2]? = some (.cells #[.int .i64 0, .int .i64 0, .int .i64 0, .int .i64 0, .int .i64 0, .slice none 0 0] 29 (0, 0))) ∧ (w.heap.size ≤ s_.2) ∧ (w.heap.size ≤ s_.2) ∧ (gbAe ≠ s_.2) ∧ (s_.2 ≠ gbAe) ∧ (gbAf ≠ s_.2) ∧ (s_.2 ≠ gbAf) ∧ (gbAb ≠ s_.2) ∧ (s_.2 ≠ gbAb) ∧ (gbAd ≠ s_.2) ∧ (s_.2 ≠ gbAd) ∧ (Below w.heap.size w w')) ?_ ?_
       rotate_left
       ·
        intro hCont
        refine two_ (i := 7) (j := 11) (Ni := some 89) (Nj := some 25) #[true, true, true, true, true, true, true, true, false, false, false, false, false, false] #[true, true, true, true, true, true, true, false, false, false, false, true, false, false] rfl rfl rfl rfl (two_of HT_.out (by kernel_rfl)) (by decide) (by decide) (fun K hK => ?_) (fun K hK => ?_)
        ·
         skip
         refine gs_ Try.func40 #[.agg #[.int .i64 tAi, .int .i64 tAn, .int .i64 tAp, .int .i64 tAr, .int .i64 tAt, .slice Ao30 tAk.length co30], .int .i64 tAg, .int .i64 (rd yAu x23_3), .string (rdOf ByteArray.empty yAs x22_2)] ?_
         with_reducible refine (arb_Right.calls tAi tAn tAp tAr tAt _ _ tAk tAg (rd yAu x23_3) (rdOf ByteArray.empty yAs x22_2) tAq tBa tBc tBd tBf tAw tBs _ ?side1 ?side2 A72.out).mono ?_
         (case side1 => exact cC_ (Kd.R_reads' HO_Ag005.out).2.2)
         (case side2 => exact (Kd.R_reads' HO_Ag005.out).2.1)
         rintro e w84 ⟨vCc, rfl, ho0, hb⟩
         have HS6_ := (hb.cell (World.block_lt_of_cell? _ _ (hHeld.2.2.2.2.2.2))).trans (hHeld.2.2.2.2.2.2)
         refine ⟨_, rfl, ?_⟩
         have HOAz := Aside0.mk (Kd.R_lower (Kd.R_new' ho0 (Kd.R_lt (pR_ HO_Ah005.out))) (below_size (pH_ HB.out)))
         replace HO_21 := Aside0.mk (Kd.R_below (pR_ HO_21.out) hb)
         replace HO_Ag005 := Aside0.mk (Kd.R_below (pR_ HO_Ag005.out) hb)
         replace HO_Ah005 := Aside0.mk (Kd.R_elder' (pR_ HO_Ah005.out) (Kd.R_base ho0) hb)
         replace HOAv := Aside0.mk (Kd.R_below (pR_ HOAv.out) hb)
         replace BKAe := bb_ BKAe hb
         replace BKAf := bb_ BKAf hb
         replace BKAb := bb_ BKAb hb
         replace BKAd := bb_ BKAd hb
         replace HB := bs_ HB hb
         (try clear hb)
         (try clear hb2)
         (try clear hk)
         (try clear hi)
         (try clear ho0)
         refine hK.out _ _ ⟨bc_ BKAb 0, bc_ BKAb 1, bc_ BKAb 2, bc_ BKAb 3, bc_ BKAb 4, bc_ BKAb 5, HS6_⟩ (fun hHeld => ?_)
         clear hK K
         refine nq_ 89 ?_
         refine pq_ 8 81 HT_ ?_
         refine pq_ 9 90 HT_ ?_
         refine pq_ 10 91 HT_ ?_
         refine oq_ 11 25 HT_ (fun K hK => ?_)
         refine box_step ?hg (N := 25) ?hd (cs := #[.int .i64 0, .int .i64 0, .int .i64 0, .int .i64 0, .int .i64 0, .slice none 0 0]) (t := 29) ?hr ?_; (case hd => rfl); (case hg => rfl); (case hr => first | (go_simp; done) | (go_simp; rfl))
         intro gbAa hg w85 hbox hb
         have HS6_ := (hb.cell (World.block_lt_of_cell? _ _ (hHeld.2.2.2.2.2.2))).trans (hHeld.2.2.2.2.2.2)
         have BKAa := Aside0.mk (hbox)
         have GWAa := Aside0.mk ((by rw [hg]; exact (below_size (pH_ HB.out)) : w.heap.size ≤ gbAa))
         have GEAa := Aside0.mk ((by rw [hg]; exact (below_size (pH_ HB.out)) : w.heap.size ≤ gbAa))
         have NBAe_Aa := Aside0.mk (ltB_ hg BKAe.out)
         have NBAa_Ae := Aside0.mk (ltB_ hg BKAe.out).symm
         have NBAf_Aa := Aside0.mk (ltB_ hg BKAf.out)
         have NBAa_Af := Aside0.mk (ltB_ hg BKAf.out).symm
         have NBAb_Aa := Aside0.mk (ltB_ hg BKAb.out)
         have NBAa_Ab := Aside0.mk (ltB_ hg BKAb.out).symm
         have NBAd_Aa := Aside0.mk (ltB_ hg BKAd.out)
         have NBAa_Ad := Aside0.mk (ltB_ hg BKAd.out).symm
         replace HO_21 := Aside0.mk (Kd.R_below (pR_ HO_21.out) hb)
         replace HO_Ag005 := Aside0.mk (Kd.R_below (pR_ HO_Ag005.out) hb)
         replace HO_Ah005 := Aside0.mk (Kd.R_below (pR_ HO_Ah005.out) hb)
         replace HOAv := Aside0.mk (Kd.R_below (pR_ HOAv.out) hb)
         replace HOAz := Aside0.mk (Kd.R_below (pR_ HOAz.out) hb)
         replace BKAe := bb_ BKAe hb
         replace BKAf := bb_ BKAf hb
         replace BKAb := bb_ BKAb hb
         replace BKAd := bb_ BKAd hb
         replace HB := bs_ HB hb
         clear hb hbox hg
         refine hK.out _ _ ⟨bc_ BKAb 0, bc_ BKAb 1, bc_ BKAb 2, bc_ BKAb 3, bc_ BKAb 4, bc_ BKAb 5, HS6_⟩ (fun hHeld => ?_)
         clear hK K
         refine nq_ 25 ?_
         exact norm_ (by simp only [putAll, Act.put, List.setIfInBounds_toArray, List.set_cons_zero, List.set_cons_succ]) (hCont (vCc, gbAa) _ ⟨hHeld, (by (with_reducible repeat (first | apply Kd.R_alloc | apply Kd.R_drewN | apply Kd.R_drew)); exact Kd.R_mono HOAv.out (fun _ hk => hk.2)), (by (with_reducible repeat (first | apply Kd.R_alloc | apply Kd.R_drewN | apply Kd.R_drew)); exact Kd.R_mono HOAz.out (fun _ hk => hk.2)), (pR_ HO_21.out), (by (with_reducible repeat (first | apply Kd.R_alloc | apply Kd.R_drewN | apply Kd.R_drew)); exact Kd.R_mono HO_Ag005.out (fun _ hk => hk.2)), (by (with_reducible repeat (first | apply Kd.R_alloc | apply Kd.R_drewN | apply Kd.R_drew)); exact Kd.R_mono HO_Ah005.out (fun _ hk => hk.2)), (pB_ BKAe.out), (pB_ BKAf.out), (pB_ BKAb.out), (pB_ BKAd.out), (pB_ BKAa.out), GWAa.out, GEAa.out, NBAe_Aa.out, NBAa_Ae.out, NBAf_Aa.out, NBAa_Af.out, NBAb_Aa.out, NBAa_Ab.out, NBAd_Aa.out, NBAa_Ad.out, (pH_ HB.out)⟩)
        skip
        refine box_step ?hg (N := 25) ?hd (cs := #[.int .i64 0, .int .i64 0, .int .i64 0, .int .i64 0, .int .i64 0, .slice none 0 0]) (t := 29) ?hr ?_; (case hd => rfl); (case hg => rfl); (case hr => first | (go_simp; done) | (go_simp; rfl))
        intro gbAa hg w84 hbox hb
        have HS6_ := (hb.cell (World.block_lt_of_cell? _ _ (hHeld.2.2.2.2.2.2))).trans (hHeld.2.2.2.2.2.2)
        have BKAa := Aside0.mk (hbox)
        have GWAa := Aside0.mk ((by rw [hg]; exact (below_size (pH_ HB.out)) : w.heap.size ≤ gbAa))
        have GEAa := Aside0.mk ((by rw [hg]; exact (below_size (pH_ HB.out)) : w.heap.size ≤ gbAa))
        have NBAe_Aa := Aside0.mk (ltB_ hg BKAe.out)
        have NBAa_Ae := Aside0.mk (ltB_ hg BKAe.out).symm
        have NBAf_Aa := Aside0.mk (ltB_ hg BKAf.out)
        have NBAa_Af := Aside0.mk (ltB_ hg BKAf.out).symm
        have NBAb_Aa := Aside0.mk (ltB_ hg BKAb.out)
        have NBAa_Ab := Aside0.mk (ltB_ hg BKAb.out).symm
        have NBAd_Aa := Aside0.mk (ltB_ hg BKAd.out)
        have NBAa_Ad := Aside0.mk (ltB_ hg BKAd.out).symm
        replace HO_21 := Aside0.mk (Kd.R_below (pR_ HO_21.out) hb)
        replace HO_Ag005 := Aside0.mk (Kd.R_below (pR_ HO_Ag005.out) hb)
        replace HO_Ah005 := Aside0.mk (Kd.R_below (pR_ HO_Ah005.out) hb)
        replace HOAv := Aside0.mk (Kd.R_below (pR_ HOAv.out) hb)
        replace BKAe := bb_ BKAe hb
        replace BKAf := bb_ BKAf hb
        replace BKAb := bb_ BKAb hb
        replace BKAd := bb_ BKAd hb
        replace HB := bs_ HB hb
        clear hb hbox hg
        refine hK.out _ _ ⟨bc_ BKAb 0, bc_ BKAb 1, bc_ BKAb 2, bc_ BKAb 3, bc_ BKAb 4, bc_ BKAb 5, HS6_⟩ (fun hHeld => ?_)
        clear hK K
        refine nq_ 25 ?_
        refine oq_ 7 89 HT_ (fun K hK => ?_)
        refine gs_ Try.func40 #[.agg #[.int .i64 tAi, .int .i64 tAn, .int .i64 tAp, .int .i64 tAr, .int .i64 tAt, .slice Ao30 tAk.length co30], .int .i64 tAg, .int .i64 (rd yAu x23_3), .string (rdOf ByteArray.empty yAs x22_2)] ?_
        with_reducible refine (arb_Right.calls tAi tAn tAp tAr tAt _ _ tAk tAg (rd yAu x23_3) (rdOf ByteArray.empty yAs x22_2) tAq tBa tBc tBd tBf tAw tBs _ ?side1 ?side2 A72.out).mono ?_
        (case side1 => exact cC_ (Kd.R_reads' HO_Ag005.out).2.2)
        (case side2 => exact (Kd.R_reads' HO_Ag005.out).2.1)
        rintro e w85 ⟨vCc, rfl, ho0, hb⟩
        have HS6_ := (hb.cell (World.block_lt_of_cell? _ _ (hHeld.2.2.2.2.2.2))).trans (hHeld.2.2.2.2.2.2)
        refine ⟨_, rfl, ?_⟩
        have HOAz := Aside0.mk (Kd.R_lower (Kd.R_new' ho0 (Kd.R_lt (pR_ HO_Ah005.out))) (below_size (pH_ HB.out)))
        replace HO_21 := Aside0.mk (Kd.R_below (pR_ HO_21.out) hb)
        replace HO_Ag005 := Aside0.mk (Kd.R_below (pR_ HO_Ag005.out) hb)
        replace HO_Ah005 := Aside0.mk (Kd.R_elder' (pR_ HO_Ah005.out) (Kd.R_base ho0) hb)
        replace HOAv := Aside0.mk (Kd.R_below (pR_ HOAv.out) hb)
        replace BKAe := bb_ BKAe hb
        replace BKAf := bb_ BKAf hb
        replace BKAb := bb_ BKAb hb
        replace BKAd := bb_ BKAd hb
        replace BKAa := bb_ BKAa hb
        replace HB := bs_ HB hb
        (try clear hb)
        (try clear hb2)
        (try clear hk)
        (try clear hi)
        (try clear ho0)
        refine hK.out _ _ ⟨bc_ BKAb 0, bc_ BKAb 1, bc_ BKAb 2, bc_ BKAb 3, bc_ BKAb 4, bc_ BKAb 5, HS6_⟩ (fun hHeld => ?_)
        clear hK K
        refine nq_ 89 ?_
        refine pq_ 8 81 HT_ ?_
        refine pq_ 9 90 HT_ ?_
        refine pq_ 10 91 HT_ ?_
        exact norm_ (by simp only [putAll, Act.put, List.setIfInBounds_toArray, List.set_cons_zero, List.set_cons_succ]) (hCont (vCc, gbAa) _ ⟨hHeld, (by (with_reducible repeat (first | apply Kd.R_alloc | apply Kd.R_drewN | apply Kd.R_drew)); exact Kd.R_mono HOAv.out (fun _ hk => hk.2)), (by (with_reducible repeat (first | apply Kd.R_alloc | apply Kd.R_drewN | apply Kd.R_drew)); exact Kd.R_mono HOAz.out (fun _ hk => hk.2)), (pR_ HO_21.out), (by (with_reducible repeat (first | apply Kd.R_alloc | apply Kd.R_drewN | apply Kd.R_drew)); exact Kd.R_mono HO_Ag005.out (fun _ hk => hk.2)), (by (with_reducible repeat (first | apply Kd.R_alloc | apply Kd.R_drewN | apply Kd.R_drew)); exact Kd.R_mono HO_Ah005.out (fun _ hk => hk.2)), (pB_ BKAe.out), (pB_ BKAf.out), (pB_ BKAb.out), (pB_ BKAd.out), (pB_ BKAa.out), GWAa.out, GEAa.out, NBAe_Aa.out, NBAa_Ae.out, NBAf_Aa.out, NBAa_Af.out, NBAb_Aa.out, NBAa_Ab.out, NBAd_Aa.out, NBAa_Ad.out, (pH_ HB.out)⟩)
       rintro ⟨vCc, gbAa⟩ w86 ⟨hS_, h0_, h1_, h2_, h3_, h4_, h5_, h6_, h7_, h8_, h9_, h10_, h11_, h12_, h13_, h14_, h15_, h16_, h17_, h18_, h19_, h20_⟩
       have n0_ : Aside0 (Kd.R (Kd.int .i64) 3 w86 w.heap.size (fun k_ => some k_ ≠ (.slice Ao30 tAk.length co30 : Value).ownBlock) (.slice (some ado81) yAu.length co81) yAu) := ⟨h0_⟩
       have n1_ : Aside0 (Kd.R k26 26 w86 w.heap.size (fun k_ => some k_ ≠ (.slice Ao38 tAm.length co38 : Value).ownBlock) vCc tAw) := ⟨h1_⟩
       have n2_ : Aside0 (Kd.R Kd.string 9 w86 w.heap.size (fun _ => True) (.slice (some adBg) yAs.length co83) yAs) := ⟨h2_⟩
       have n3_ : Aside0 (Kd.R (Kd.int .i64) 3 w86 w.heap.size (fun k_ => some k_ ≠ (.slice (some ado81) yAu.length co81 : Value).ownBlock) (.slice Ao30 tAk.length co30) tAk) := ⟨h3_⟩
       have n4_ : Aside0 (Kd.R k26 26 w86 w.heap.size (fun k_ => some k_ ≠ (vCc : Value).ownBlock) (.slice Ao38 tAm.length co38) tAm) := ⟨h4_⟩
       have n5_ : Aside0 (w86.heap[gbAe]? = some (.cells #[.int .i64 a0_0, .int .i64 a0_1, .int .i64 a0_2, .int .i64 a0_3, .int .i64 a0_4, .slice A0_5 l0_5.length c0_5] 24 (0, 0))) := ⟨h5_⟩
       have n6_ : Aside0 (w86.heap[gbAf]? = some (.cells #[.int .i64 a1_0, .int .i64 a1_1, .int .i64 a1_2, .int .i64 a1_3, .int .i64 a1_4, .slice A1_5 l1_5.length c1_5] 29 (0, 0))) := ⟨h6_⟩
       have n7_ : Aside0 (w86.heap[gbAb]? = some (.cells #[.int .i64 tAi, .int .i64 tAn, .int .i64 tAp, .int .i64 tAr, .int .i64 tAt, .slice Ao30 tAk.length co30] 24 (0, 0))) := ⟨h7_⟩
       have n8_ : Aside0 (w86.heap[gbAd]? = some (.cells #[.int .i64 tAj, .int .i64 x26123001_18, .int .i64 tAx, .int .i64 tBb, .int .i64 tBe, .slice Ao38 tAm.length co38] 29 (0, 0))) := ⟨h8_⟩
       have n9_ : Aside0 (w86.heap[gbAa]? = some (.cells #[.int .i64 0, .int .i64 0, .int .i64 0, .int .i64 0, .int .i64 0, .slice none 0 0] 29 (0, 0))) := ⟨h9_⟩
       have n10_ : Aside0 (w.heap.size ≤ gbAa) := ⟨h10_⟩
       have n11_ : Aside0 (w.heap.size ≤ gbAa) := ⟨h11_⟩
       have n12_ : Aside0 (gbAe ≠ gbAa) := ⟨h12_⟩
       have n13_ : Aside0 (gbAa ≠ gbAe) := ⟨h13_⟩
       have n14_ : Aside0 (gbAf ≠ gbAa) := ⟨h14_⟩
       have n15_ : Aside0 (gbAa ≠ gbAf) := ⟨h15_⟩
       have n16_ : Aside0 (gbAb ≠ gbAa) := ⟨h16_⟩
       have n17_ : Aside0 (gbAa ≠ gbAb) := ⟨h17_⟩
       have n18_ : Aside0 (gbAd ≠ gbAa) := ⟨h18_⟩
       have n19_ : Aside0 (gbAa ≠ gbAd) := ⟨h19_⟩
       have n20_ : Aside0 (Below w.heap.size w w86) := ⟨h20_⟩
       clear HO_21
       clear HO_Ag005
       clear HO_Ah005
       clear HOAv
       clear BKAe
       clear BKAf
       clear BKAb
       clear BKAd
       clear HB
       clear h0_ h1_ h2_ h3_ h4_ h5_ h6_ h7_ h8_ h9_ h10_ h11_ h12_ h13_ h14_ h15_ h16_ h17_ h18_ h19_ h20_
       have HOAv := n0_
       have HOAz := n1_
       have HO_21 := n2_
       have HO_Ag005 := n3_
       have HO_Ah005 := n4_
       have BKAe := n5_
       have BKAf := n6_
       have BKAb := n7_
       have BKAd := n8_
       have BKAa := n9_
       have GWAa := n10_
       have GEAa := n11_
       have NBAe_Aa := n12_
       have NBAa_Ae := n13_
       have NBAf_Aa := n14_
       have NBAa_Af := n15_
       have NBAb_Aa := n16_
       have NBAa_Ab := n17_
       have NBAd_Aa := n18_
       have NBAa_Ad := n19_
       have HB := n20_
       clear n0_ n1_ n2_ n3_ n4_ n5_ n6_ n7_ n8_ n9_ n10_ n11_ n12_ n13_ n14_ n15_ n16_ n17_ n18_ n19_ n20_
       have hHeld : w86.cell? ⟨gbAb, 0, none⟩ = some (.int .i64 tAi) ∧ w86.cell? ⟨gbAb, 1, none⟩ = some (.int .i64 tAn) ∧ w86.cell? ⟨gbAb, 2, none⟩ = some (.int .i64 tAp) ∧ w86.cell? ⟨gbAb, 3, none⟩ = some (.int .i64 tAr) ∧ w86.cell? ⟨gbAb, 4, none⟩ = some (.int .i64 tAt) ∧ w86.cell? ⟨gbAb, 5, none⟩ = some (.slice Ao30 tAk.length co30) ∧ w86.cell? (adBg.add (x22_2).toNat) = some (.string (rdOf ByteArray.empty yAs x22_2)) := hS_
       obtain ⟨Ao92, co92, eo92⟩ := Kd.R_slice HOAz.out
       (first | subst eo92 | (injection eo92 with f1_ f2_ f3_; have f4_ := f1_.symm; have f5_ := f3_.symm; clear f1_ f2_ f3_; subst f4_; subst f5_))
       refine norm_ (a' := ?_) ?_ ?_
       rotate_left
       ·
        simp only [putAll, Act.put, List.setIfInBounds_toArray, List.set_cons_zero, List.set_cons_succ]
        rfl
       refine one_ (i := 12) (N := none) #[true, true, true, true, true, true, true, true, true, true, true, true, true, false] rfl rfl (one_of HT_.out (by kernel_rfl)) (by decide) (fun K hK => ?_)
       have hs87 : w86.cell? ⟨gbAa, 0, none⟩ = some (.int .i64 0) := bc_ BKAa 0
       have hfs87 := blk_frozen BKAa.out 0
       have hns87_0 := NBAe_Aa.out
       have hns87_1 := NBAf_Aa.out
       have hns87_2 := NBAb_Aa.out
       have hns87_3 := NBAd_Aa.out
       have hms87_0 := NBAa_Ae.out
       have hms87_1 := NBAa_Af.out
       have hms87_2 := NBAa_Ab.out
       have hms87_3 := NBAa_Ad.out
       have hs88 : w86.cell? ⟨gbAa, 1, none⟩ = some (.int .i64 0) := bc_ BKAa 1
       have hfs88 := blk_frozen BKAa.out 1
       have hns88_0 := NBAe_Aa.out
       have hns88_1 := NBAf_Aa.out
       have hns88_2 := NBAb_Aa.out
       have hns88_3 := NBAd_Aa.out
       have hms88_0 := NBAa_Ae.out
       have hms88_1 := NBAa_Af.out
       have hms88_2 := NBAa_Ab.out
       have hms88_3 := NBAa_Ad.out
       have hs89 : w86.cell? ⟨gbAa, 2, none⟩ = some (.int .i64 0) := bc_ BKAa 2
       have hfs89 := blk_frozen BKAa.out 2
       have hns89_0 := NBAe_Aa.out
       have hns89_1 := NBAf_Aa.out
       have hns89_2 := NBAb_Aa.out
       have hns89_3 := NBAd_Aa.out
       have hms89_0 := NBAa_Ae.out
       have hms89_1 := NBAa_Af.out
       have hms89_2 := NBAa_Ab.out
       have hms89_3 := NBAa_Ad.out
       have hs90 : w86.cell? ⟨gbAa, 3, none⟩ = some (.int .i64 0) := bc_ BKAa 3
       have hfs90 := blk_frozen BKAa.out 3
       have hns90_0 := NBAe_Aa.out
       have hns90_1 := NBAf_Aa.out
       have hns90_2 := NBAb_Aa.out
       have hns90_3 := NBAd_Aa.out
       have hms90_0 := NBAa_Ae.out
       have hms90_1 := NBAa_Af.out
       have hms90_2 := NBAa_Ab.out
       have hms90_3 := NBAa_Ad.out
       have hs91 : w86.cell? ⟨gbAa, 4, none⟩ = some (.int .i64 0) := bc_ BKAa 4
       have hfs91 := blk_frozen BKAa.out 4
       have hns91_0 := NBAe_Aa.out
       have hns91_1 := NBAf_Aa.out
       have hns91_2 := NBAb_Aa.out
       have hns91_3 := NBAd_Aa.out
       have hms91_0 := NBAa_Ae.out
       have hms91_1 := NBAa_Af.out
       have hms91_2 := NBAa_Ab.out
       have hms91_3 := NBAa_Ad.out
       have hs93 : w86.cell? ⟨gbAa, 5, none⟩ = some (.slice none 0 0) := bc_ BKAa 5
       have hfs93 := blk_frozen BKAa.out 5
       have hns93_0 := NBAe_Aa.out
       have hns93_1 := NBAf_Aa.out
       have hns93_2 := NBAb_Aa.out
       have hns93_3 := NBAd_Aa.out
       have hms93_0 := NBAa_Ae.out
       have hms93_1 := NBAa_Af.out
       have hms93_2 := NBAa_Ab.out
       have hms93_3 := NBAa_Ad.out
       refine skip_ (w1 := ?_) (by rfl) rfl ?_ ?_
       rotate_left
       ·
        go_simp
        rfl
       refine hK.out _ _ ⟨((cell_far (p := ⟨gbAa, _, none⟩) NBAb_Aa.out _).trans (((cell_far (p := ⟨gbAa, _, none⟩) NBAb_Aa.out _).trans (((cell_far (p := ⟨gbAa, _, none⟩) NBAb_Aa.out _).trans (((cell_far (p := ⟨gbAa, _, none⟩) NBAb_Aa.out _).trans (((cell_far (p := ⟨gbAa, _, none⟩) NBAb_Aa.out _).trans (((cell_far (p := ⟨gbAa, _, none⟩) NBAb_Aa.out _).trans (hHeld.1)))))))))))), ((cell_far (p := ⟨gbAa, _, none⟩) NBAb_Aa.out _).trans (((cell_far (p := ⟨gbAa, _, none⟩) NBAb_Aa.out _).trans (((cell_far (p := ⟨gbAa, _, none⟩) NBAb_Aa.out _).trans (((cell_far (p := ⟨gbAa, _, none⟩) NBAb_Aa.out _).trans (((cell_far (p := ⟨gbAa, _, none⟩) NBAb_Aa.out _).trans (((cell_far (p := ⟨gbAa, _, none⟩) NBAb_Aa.out _).trans (hHeld.2.1)))))))))))), ((cell_far (p := ⟨gbAa, _, none⟩) NBAb_Aa.out _).trans (((cell_far (p := ⟨gbAa, _, none⟩) NBAb_Aa.out _).trans (((cell_far (p := ⟨gbAa, _, none⟩) NBAb_Aa.out _).trans (((cell_far (p := ⟨gbAa, _, none⟩) NBAb_Aa.out _).trans (((cell_far (p := ⟨gbAa, _, none⟩) NBAb_Aa.out _).trans (((cell_far (p := ⟨gbAa, _, none⟩) NBAb_Aa.out _).trans (hHeld.2.2.1)))))))))))), ((cell_far (p := ⟨gbAa, _, none⟩) NBAb_Aa.out _).trans (((cell_far (p := ⟨gbAa, _, none⟩) NBAb_Aa.out _).trans (((cell_far (p := ⟨gbAa, _, none⟩) NBAb_Aa.out _).trans (((cell_far (p := ⟨gbAa, _, none⟩) NBAb_Aa.out _).trans (((cell_far (p := ⟨gbAa, _, none⟩) NBAb_Aa.out _).trans (((cell_far (p := ⟨gbAa, _, none⟩) NBAb_Aa.out _).trans (hHeld.2.2.2.1)))))))))))), ((cell_far (p := ⟨gbAa, _, none⟩) NBAb_Aa.out _).trans (((cell_far (p := ⟨gbAa, _, none⟩) NBAb_Aa.out _).trans (((cell_far (p := ⟨gbAa, _, none⟩) NBAb_Aa.out _).trans (((cell_far (p := ⟨gbAa, _, none⟩) NBAb_Aa.out _).trans (((cell_far (p := ⟨gbAa, _, none⟩) NBAb_Aa.out _).trans (((cell_far (p := ⟨gbAa, _, none⟩) NBAb_Aa.out _).trans (hHeld.2.2.2.2.1)))))))))))), ((cell_far (p := ⟨gbAa, _, none⟩) NBAb_Aa.out _).trans (((cell_far (p := ⟨gbAa, _, none⟩) NBAb_Aa.out _).trans (((cell_far (p := ⟨gbAa, _, none⟩) NBAb_Aa.out _).trans (((cell_far (p := ⟨gbAa, _, none⟩) NBAb_Aa.out _).trans (((cell_far (p := ⟨gbAa, _, none⟩) NBAb_Aa.out _).trans (((cell_far (p := ⟨gbAa, _, none⟩) NBAb_Aa.out _).trans (hHeld.2.2.2.2.2.1)))))))))))), ((cell_far (p := ⟨gbAa, _, none⟩) (by first | exact Kd.own_blk (Kd.R_ne HO_21.out BKAa.out (by decide)) | (rw [add_block]; exact Kd.own_blk (Kd.R_ne HO_21.out BKAa.out (by decide))) | (show (Addr.add _ _).block ≠ _; rw [add_block]; exact Kd.own_blk (Kd.R_ne HO_21.out BKAa.out (by decide))) | (dsimp only; exact Kd.own_blk (Kd.R_ne HO_21.out BKAa.out (by decide)))) _).trans (((cell_far (p := ⟨gbAa, _, none⟩) (by first | exact Kd.own_blk (Kd.R_ne HO_21.out BKAa.out (by decide)) | (rw [add_block]; exact Kd.own_blk (Kd.R_ne HO_21.out BKAa.out (by decide))) | (show (Addr.add _ _).block ≠ _; rw [add_block]; exact Kd.own_blk (Kd.R_ne HO_21.out BKAa.out (by decide))) | (dsimp only; exact Kd.own_blk (Kd.R_ne HO_21.out BKAa.out (by decide)))) _).trans (((cell_far (p := ⟨gbAa, _, none⟩) (by first | exact Kd.own_blk (Kd.R_ne HO_21.out BKAa.out (by decide)) | (rw [add_block]; exact Kd.own_blk (Kd.R_ne HO_21.out BKAa.out (by decide))) | (show (Addr.add _ _).block ≠ _; rw [add_block]; exact Kd.own_blk (Kd.R_ne HO_21.out BKAa.out (by decide))) | (dsimp only; exact Kd.own_blk (Kd.R_ne HO_21.out BKAa.out (by decide)))) _).trans (((cell_far (p := ⟨gbAa, _, none⟩) (by first | exact Kd.own_blk (Kd.R_ne HO_21.out BKAa.out (by decide)) | (rw [add_block]; exact Kd.own_blk (Kd.R_ne HO_21.out BKAa.out (by decide))) | (show (Addr.add _ _).block ≠ _; rw [add_block]; exact Kd.own_blk (Kd.R_ne HO_21.out BKAa.out (by decide))) | (dsimp only; exact Kd.own_blk (Kd.R_ne HO_21.out BKAa.out (by decide)))) _).trans (((cell_far (p := ⟨gbAa, _, none⟩) (by first | exact Kd.own_blk (Kd.R_ne HO_21.out BKAa.out (by decide)) | (rw [add_block]; exact Kd.own_blk (Kd.R_ne HO_21.out BKAa.out (by decide))) | (show (Addr.add _ _).block ≠ _; rw [add_block]; exact Kd.own_blk (Kd.R_ne HO_21.out BKAa.out (by decide))) | (dsimp only; exact Kd.own_blk (Kd.R_ne HO_21.out BKAa.out (by decide)))) _).trans (((cell_far (p := ⟨gbAa, _, none⟩) (by first | exact Kd.own_blk (Kd.R_ne HO_21.out BKAa.out (by decide)) | (rw [add_block]; exact Kd.own_blk (Kd.R_ne HO_21.out BKAa.out (by decide))) | (show (Addr.add _ _).block ≠ _; rw [add_block]; exact Kd.own_blk (Kd.R_ne HO_21.out BKAa.out (by decide))) | (dsimp only; exact Kd.own_blk (Kd.R_ne HO_21.out BKAa.out (by decide)))) _).trans (hHeld.2.2.2.2.2.2))))))))))))⟩ (fun hHeld => ?_)
       clear hK K
       refine pq_ 13 26 HT_ ?_
       refine done_ (done_of HT_.out (by kernel_rfl)) ?_
       try go_wp2
       (try (rw [drewN_self w86]; generalize hq_ : World.drewN w86 _ = w86; have n0_ := Aside0.mk (Kd.R_at hq_ HO_21.out); have n1_ := Aside0.mk (Kd.R_at hq_ HO_Ag005.out); have n2_ := Aside0.mk (Kd.R_at hq_ HO_Ah005.out); have n3_ := Aside0.mk (Kd.R_at hq_ HOAv.out); have n4_ := Aside0.mk (Kd.R_at hq_ HOAz.out); have n5_ := Aside0.mk (blk_at hq_ BKAe.out); have n6_ := Aside0.mk (blk_at hq_ BKAf.out); have n7_ := Aside0.mk (blk_at hq_ BKAb.out); have n8_ := Aside0.mk (blk_at hq_ BKAd.out); have n9_ := Aside0.mk (blk_at hq_ BKAa.out); have n10_ := Aside0.mk (below_at hq_ HB.out); clear hq_ HO_21 HO_Ag005 HO_Ah005 HOAv HOAz BKAe BKAf BKAb BKAd BKAa HB; have HO_21 := n0_; have HO_Ag005 := n1_; have HO_Ah005 := n2_; have HOAv := n3_; have HOAz := n4_; have BKAe := n5_; have BKAf := n6_; have BKAb := n7_; have BKAd := n8_; have BKAa := n9_; have HB := n10_; clear n0_ n1_ n2_ n3_ n4_ n5_ n6_ n7_ n8_ n9_ n10_))
       have n0_ : Aside0 (Kd.R Kd.string 9 ((((((w86.setCell ⟨gbAa, 0, none⟩ (.int .i64 tAq)).setCell ⟨gbAa, 1, none⟩ (.int .i64 tBa)).setCell ⟨gbAa, 2, none⟩ (.int .i64 tBc)).setCell ⟨gbAa, 3, none⟩ (.int .i64 tBd)).setCell ⟨gbAa, 4, none⟩ (.int .i64 tBf)).setCell ⟨gbAa, 5, none⟩ (.slice Ao92 tAw.length co92)) w.heap.size (fun _ => True) (.slice (some adBg) yAs.length co83) yAs) := ⟨by (with_reducible repeat (first | apply Kd.R_alloc | apply Kd.R_drewN | apply Kd.R_drew)); exact Kd.R_mono (Kd.R_far (p := ⟨gbAa, 5, none⟩) (Kd.R_far (p := ⟨gbAa, 4, none⟩) (Kd.R_far (p := ⟨gbAa, 3, none⟩) (Kd.R_far (p := ⟨gbAa, 2, none⟩) (Kd.R_far (p := ⟨gbAa, 1, none⟩) (Kd.R_far (p := ⟨gbAa, 0, none⟩) (Kd.R_types HO_21.out BKAa.out (by decide)) (fun _ hk => hk.2) (.int .i64 tAq)) (fun _ hk => hk.2) (.int .i64 tBa)) (fun _ hk => hk.2) (.int .i64 tBc)) (fun _ hk => hk.2) (.int .i64 tBd)) (fun _ hk => hk.2) (.int .i64 tBf)) (fun _ hk => hk.2) (.slice Ao92 tAw.length co92)) (fun _ hk => trivial)⟩
       have n1_ : Aside0 (Kd.R (Kd.int .i64) 3 ((((((w86.setCell ⟨gbAa, 0, none⟩ (.int .i64 tAq)).setCell ⟨gbAa, 1, none⟩ (.int .i64 tBa)).setCell ⟨gbAa, 2, none⟩ (.int .i64 tBc)).setCell ⟨gbAa, 3, none⟩ (.int .i64 tBd)).setCell ⟨gbAa, 4, none⟩ (.int .i64 tBf)).setCell ⟨gbAa, 5, none⟩ (.slice Ao92 tAw.length co92)) w.heap.size (fun k_ => some k_ ≠ (.slice (some ado81) yAu.length co81 : Value).ownBlock) (.slice Ao30 tAk.length co30) tAk) := ⟨by (with_reducible repeat (first | apply Kd.R_alloc | apply Kd.R_drewN | apply Kd.R_drew)); exact Kd.R_mono (Kd.R_far (p := ⟨gbAa, 5, none⟩) (Kd.R_far (p := ⟨gbAa, 4, none⟩) (Kd.R_far (p := ⟨gbAa, 3, none⟩) (Kd.R_far (p := ⟨gbAa, 2, none⟩) (Kd.R_far (p := ⟨gbAa, 1, none⟩) (Kd.R_far (p := ⟨gbAa, 0, none⟩) (Kd.R_types HO_Ag005.out BKAa.out (by decide)) (fun _ hk => hk.2) (.int .i64 tAq)) (fun _ hk => hk.2) (.int .i64 tBa)) (fun _ hk => hk.2) (.int .i64 tBc)) (fun _ hk => hk.2) (.int .i64 tBd)) (fun _ hk => hk.2) (.int .i64 tBf)) (fun _ hk => hk.2) (.slice Ao92 tAw.length co92)) (fun _ hk => hk.1)⟩
       have n2_ : Aside0 (Kd.R k26 26 ((((((w86.setCell ⟨gbAa, 0, none⟩ (.int .i64 tAq)).setCell ⟨gbAa, 1, none⟩ (.int .i64 tBa)).setCell ⟨gbAa, 2, none⟩ (.int .i64 tBc)).setCell ⟨gbAa, 3, none⟩ (.int .i64 tBd)).setCell ⟨gbAa, 4, none⟩ (.int .i64 tBf)).setCell ⟨gbAa, 5, none⟩ (.slice Ao92 tAw.length co92)) w.heap.size (fun k_ => some k_ ≠ (.slice Ao92 tAw.length co92 : Value).ownBlock) (.slice Ao38 tAm.length co38) tAm) := ⟨by (with_reducible repeat (first | apply Kd.R_alloc | apply Kd.R_drewN | apply Kd.R_drew)); exact Kd.R_mono (Kd.R_far (p := ⟨gbAa, 5, none⟩) (Kd.R_far (p := ⟨gbAa, 4, none⟩) (Kd.R_far (p := ⟨gbAa, 3, none⟩) (Kd.R_far (p := ⟨gbAa, 2, none⟩) (Kd.R_far (p := ⟨gbAa, 1, none⟩) (Kd.R_far (p := ⟨gbAa, 0, none⟩) (Kd.R_types HO_Ah005.out BKAa.out (by decide)) (fun _ hk => hk.2) (.int .i64 tAq)) (fun _ hk => hk.2) (.int .i64 tBa)) (fun _ hk => hk.2) (.int .i64 tBc)) (fun _ hk => hk.2) (.int .i64 tBd)) (fun _ hk => hk.2) (.int .i64 tBf)) (fun _ hk => hk.2) (.slice Ao92 tAw.length co92)) (fun _ hk => hk.1)⟩
       have n3_ : Aside0 (Kd.R (Kd.int .i64) 3 ((((((w86.setCell ⟨gbAa, 0, none⟩ (.int .i64 tAq)).setCell ⟨gbAa, 1, none⟩ (.int .i64 tBa)).setCell ⟨gbAa, 2, none⟩ (.int .i64 tBc)).setCell ⟨gbAa, 3, none⟩ (.int .i64 tBd)).setCell ⟨gbAa, 4, none⟩ (.int .i64 tBf)).setCell ⟨gbAa, 5, none⟩ (.slice Ao92 tAw.length co92)) w.heap.size (fun k_ => some k_ ≠ (.slice Ao30 tAk.length co30 : Value).ownBlock) (.slice (some ado81) yAu.length co81) yAu) := ⟨by (with_reducible repeat (first | apply Kd.R_alloc | apply Kd.R_drewN | apply Kd.R_drew)); exact Kd.R_mono (Kd.R_far (p := ⟨gbAa, 5, none⟩) (Kd.R_far (p := ⟨gbAa, 4, none⟩) (Kd.R_far (p := ⟨gbAa, 3, none⟩) (Kd.R_far (p := ⟨gbAa, 2, none⟩) (Kd.R_far (p := ⟨gbAa, 1, none⟩) (Kd.R_far (p := ⟨gbAa, 0, none⟩) (Kd.R_types HOAv.out BKAa.out (by decide)) (fun _ hk => hk.2) (.int .i64 tAq)) (fun _ hk => hk.2) (.int .i64 tBa)) (fun _ hk => hk.2) (.int .i64 tBc)) (fun _ hk => hk.2) (.int .i64 tBd)) (fun _ hk => hk.2) (.int .i64 tBf)) (fun _ hk => hk.2) (.slice Ao92 tAw.length co92)) (fun _ hk => hk.1)⟩
       have n4_ : Aside0 (Kd.R k26 26 ((((((w86.setCell ⟨gbAa, 0, none⟩ (.int .i64 tAq)).setCell ⟨gbAa, 1, none⟩ (.int .i64 tBa)).setCell ⟨gbAa, 2, none⟩ (.int .i64 tBc)).setCell ⟨gbAa, 3, none⟩ (.int .i64 tBd)).setCell ⟨gbAa, 4, none⟩ (.int .i64 tBf)).setCell ⟨gbAa, 5, none⟩ (.slice Ao92 tAw.length co92)) w.heap.size (fun k_ => some k_ ≠ (.slice Ao38 tAm.length co38 : Value).ownBlock) (.slice Ao92 tAw.length co92) tAw) := ⟨by (with_reducible repeat (first | apply Kd.R_alloc | apply Kd.R_drewN | apply Kd.R_drew)); exact Kd.R_mono (Kd.R_far (p := ⟨gbAa, 5, none⟩) (Kd.R_far (p := ⟨gbAa, 4, none⟩) (Kd.R_far (p := ⟨gbAa, 3, none⟩) (Kd.R_far (p := ⟨gbAa, 2, none⟩) (Kd.R_far (p := ⟨gbAa, 1, none⟩) (Kd.R_far (p := ⟨gbAa, 0, none⟩) (Kd.R_types HOAz.out BKAa.out (by decide)) (fun _ hk => hk.2) (.int .i64 tAq)) (fun _ hk => hk.2) (.int .i64 tBa)) (fun _ hk => hk.2) (.int .i64 tBc)) (fun _ hk => hk.2) (.int .i64 tBd)) (fun _ hk => hk.2) (.int .i64 tBf)) (fun _ hk => hk.2) (.slice Ao92 tAw.length co92)) (fun _ hk => hk.1)⟩
       have n5_ : Aside0 (((((((w86.setCell ⟨gbAa, 0, none⟩ (.int .i64 tAq)).setCell ⟨gbAa, 1, none⟩ (.int .i64 tBa)).setCell ⟨gbAa, 2, none⟩ (.int .i64 tBc)).setCell ⟨gbAa, 3, none⟩ (.int .i64 tBd)).setCell ⟨gbAa, 4, none⟩ (.int .i64 tBf)).setCell ⟨gbAa, 5, none⟩ (.slice Ao92 tAw.length co92)).heap[gbAe]? = some (.cells #[.int .i64 a0_0, .int .i64 a0_1, .int .i64 a0_2, .int .i64 a0_3, .int .i64 a0_4, .slice A0_5 l0_5.length c0_5] 24 (0, 0))) := ⟨bF_ BKAe.out NBAe_Aa.out⟩
       have n6_ : Aside0 (((((((w86.setCell ⟨gbAa, 0, none⟩ (.int .i64 tAq)).setCell ⟨gbAa, 1, none⟩ (.int .i64 tBa)).setCell ⟨gbAa, 2, none⟩ (.int .i64 tBc)).setCell ⟨gbAa, 3, none⟩ (.int .i64 tBd)).setCell ⟨gbAa, 4, none⟩ (.int .i64 tBf)).setCell ⟨gbAa, 5, none⟩ (.slice Ao92 tAw.length co92)).heap[gbAf]? = some (.cells #[.int .i64 a1_0, .int .i64 a1_1, .int .i64 a1_2, .int .i64 a1_3, .int .i64 a1_4, .slice A1_5 l1_5.length c1_5] 29 (0, 0))) := ⟨bF_ BKAf.out NBAf_Aa.out⟩
       have n7_ : Aside0 (((((((w86.setCell ⟨gbAa, 0, none⟩ (.int .i64 tAq)).setCell ⟨gbAa, 1, none⟩ (.int .i64 tBa)).setCell ⟨gbAa, 2, none⟩ (.int .i64 tBc)).setCell ⟨gbAa, 3, none⟩ (.int .i64 tBd)).setCell ⟨gbAa, 4, none⟩ (.int .i64 tBf)).setCell ⟨gbAa, 5, none⟩ (.slice Ao92 tAw.length co92)).heap[gbAb]? = some (.cells #[.int .i64 tAi, .int .i64 tAn, .int .i64 tAp, .int .i64 tAr, .int .i64 tAt, .slice Ao30 tAk.length co30] 24 (0, 0))) := ⟨bF_ BKAb.out NBAb_Aa.out⟩
       have n8_ : Aside0 (((((((w86.setCell ⟨gbAa, 0, none⟩ (.int .i64 tAq)).setCell ⟨gbAa, 1, none⟩ (.int .i64 tBa)).setCell ⟨gbAa, 2, none⟩ (.int .i64 tBc)).setCell ⟨gbAa, 3, none⟩ (.int .i64 tBd)).setCell ⟨gbAa, 4, none⟩ (.int .i64 tBf)).setCell ⟨gbAa, 5, none⟩ (.slice Ao92 tAw.length co92)).heap[gbAd]? = some (.cells #[.int .i64 tAj, .int .i64 x26123001_18, .int .i64 tAx, .int .i64 tBb, .int .i64 tBe, .slice Ao38 tAm.length co38] 29 (0, 0))) := ⟨bF_ BKAd.out NBAd_Aa.out⟩
       have n9_ : Aside0 (((((((w86.setCell ⟨gbAa, 0, none⟩ (.int .i64 tAq)).setCell ⟨gbAa, 1, none⟩ (.int .i64 tBa)).setCell ⟨gbAa, 2, none⟩ (.int .i64 tBc)).setCell ⟨gbAa, 3, none⟩ (.int .i64 tBd)).setCell ⟨gbAa, 4, none⟩ (.int .i64 tBf)).setCell ⟨gbAa, 5, none⟩ (.slice Ao92 tAw.length co92)).heap[gbAa]? = some (.cells #[.int .i64 tAq, .int .i64 tBa, .int .i64 tBc, .int .i64 tBd, .int .i64 tBf, .slice Ao92 tAw.length co92] 29 (0, 0))) := ⟨by (with_reducible repeat (first | refine blk_drewN ?_ _ | refine blk_drew ?_ | refine blk_alloc ?_ _)); refine blk_put (cs := #[.int .i64 tAq, .int .i64 tBa, .int .i64 tBc, .int .i64 tBd, .int .i64 tBf, .slice none 0 0]) ?_ 5 _ rfl; refine blk_put (cs := #[.int .i64 tAq, .int .i64 tBa, .int .i64 tBc, .int .i64 tBd, .int .i64 0, .slice none 0 0]) ?_ 4 _ rfl; refine blk_put (cs := #[.int .i64 tAq, .int .i64 tBa, .int .i64 tBc, .int .i64 0, .int .i64 0, .slice none 0 0]) ?_ 3 _ rfl; refine blk_put (cs := #[.int .i64 tAq, .int .i64 tBa, .int .i64 0, .int .i64 0, .int .i64 0, .slice none 0 0]) ?_ 2 _ rfl; refine blk_put (cs := #[.int .i64 tAq, .int .i64 0, .int .i64 0, .int .i64 0, .int .i64 0, .slice none 0 0]) ?_ 1 _ rfl; refine blk_put (cs := #[.int .i64 0, .int .i64 0, .int .i64 0, .int .i64 0, .int .i64 0, .slice none 0 0]) ?_ 0 _ rfl; (with_reducible repeat (first | refine blk_drewN ?_ _ | refine blk_drew ?_ | refine blk_alloc ?_ _)); exact BKAa.out⟩
       have n10_ : Aside0 (Below w.heap.size w ((((((w86.setCell ⟨gbAa, 0, none⟩ (.int .i64 tAq)).setCell ⟨gbAa, 1, none⟩ (.int .i64 tBa)).setCell ⟨gbAa, 2, none⟩ (.int .i64 tBc)).setCell ⟨gbAa, 3, none⟩ (.int .i64 tBd)).setCell ⟨gbAa, 4, none⟩ (.int .i64 tBf)).setCell ⟨gbAa, 5, none⟩ (.slice Ao92 tAw.length co92))) := ⟨pH_ HB.out⟩
       (try clear HO_21)
       (try clear HO_Ag005)
       (try clear HO_Ah005)
       (try clear HOAv)
       (try clear HOAz)
       (try clear BKAe)
       (try clear BKAf)
       (try clear BKAb)
       (try clear BKAd)
       (try clear BKAa)
       (try clear HB)
       generalize ((((((w86.setCell ⟨gbAa, 0, none⟩ (.int .i64 tAq)).setCell ⟨gbAa, 1, none⟩ (.int .i64 tBa)).setCell ⟨gbAa, 2, none⟩ (.int .i64 tBc)).setCell ⟨gbAa, 3, none⟩ (.int .i64 tBd)).setCell ⟨gbAa, 4, none⟩ (.int .i64 tBf)).setCell ⟨gbAa, 5, none⟩ (.slice Ao92 tAw.length co92)) = w94 at n0_ n1_ n2_ n3_ n4_ n5_ n6_ n7_ n8_ n9_ n10_ ⊢
       have HO_21 := n0_
       have HO_Ag005 := n1_
       have HO_Ah005 := n2_
       have HOAv := n3_
       have HOAz := n4_
       have BKAe := n5_
       have BKAf := n6_
       have BKAb := n7_
       have BKAd := n8_
       have BKAa := n9_
       have HB := n10_
       clear n0_ n1_ n2_ n3_ n4_ n5_ n6_ n7_ n8_ n9_ n10_
       replace HO_21 := Aside0.mk (Kd.R_drew HO_21.out)
       replace HO_Ag005 := Aside0.mk (Kd.R_drew HO_Ag005.out)
       replace HO_Ah005 := Aside0.mk (Kd.R_drew HO_Ah005.out)
       replace HOAv := Aside0.mk (Kd.R_drew HOAv.out)
       replace HOAz := Aside0.mk (Kd.R_drew HOAz.out)
       replace BKAe := Aside0.mk (blk_drew BKAe.out)
       replace BKAf := Aside0.mk (blk_drew BKAf.out)
       replace BKAb := Aside0.mk (blk_drew BKAb.out)
       replace BKAd := Aside0.mk (blk_drew BKAd.out)
       replace BKAa := Aside0.mk (blk_drew BKAa.out)
       replace HB := Aside0.mk (below_drew1 HB.out)
       have pBr : 0 ≤ (x22_2 : Int) := of_decide_eq_true (by first | (with_reducible assumption) | assumption)
       have qBr : x22_2 < (yAs.length : Int) := of_decide_eq_true (by first | (with_reducible assumption) | assumption)
       obtain ⟨adBr, eBr, hxBr_0⟩ := Kd.at_string (Kd.R_reads' HO_21.out).2.2 x22_2 pBr qBr
       obtain rfl : adBg = adBr := (by injection eBr)
       replace pBr := eq_true pBr
       replace qBr := eq_true qBr
       refine start_ (n := 14) (S := fun w' => w'.cell? ⟨gbAb, 0, none⟩ = some (.int .i64 tAi) ∧ w'.cell? ⟨gbAb, 1, none⟩ = some (.int .i64 tAn) ∧ w'.cell? ⟨gbAb, 2, none⟩ = some (.int .i64 tAp) ∧ w'.cell? ⟨gbAb, 3, none⟩ = some (.int .i64 tAr) ∧ w'.cell? ⟨gbAb, 4, none⟩ = some (.int .i64 tAt) ∧ w'.cell? ⟨gbAb, 5, none⟩ = some (.slice Ao30 tAk.length co30) ∧ w'.cell? (adBg.add (x22_2).toNat) = some (.string (rdOf ByteArray.empty yAs x22_2))) (ds := []) #[false, false, false, false, false, false, false, false, false, false, false, false, false, false] (by kernel_rfl) rfl rfl ⟨bc_ BKAb 0, bc_ BKAb 1, bc_ BKAb 2, bc_ BKAb 3, bc_ BKAb 4, bc_ BKAb 5, hxBr_0⟩ (fun hHeld => ?_); refine with_tabW plaitinglaw10_ArbRight.tab20 plaitinglaw10_ArbRight.bits20 (fun HT_ HW_ => ?_)
       generalize w94.drew = w95 at HO_21 HO_Ag005 HO_Ah005 HOAv HOAz BKAe BKAf BKAb BKAd BKAa HB hxBr_0 hHeld ⊢
       refine pq_ 1 94 HT_ ?_
       refine pq_ 2 95 HT_ ?_
       refine pq_ 3 96 HT_ ?_
       refine pq_ 4 97 HT_ ?_
       refine pq_ 5 98 HT_ ?_
       refine tq_ 0 93 HT_ HW_ hHeld ?_
       refine tq_ 6 99 HT_ HW_ hHeld ?_
       refine join_ (σ := Value × Nat) 2 #[true, true, true, true, true, true, true, true, true, true, true, true, false, false] (fun s_ => [(100, .tuple #[.agg #[.int .i64 tAy, .int .i64 tBh, .int .i64 tBi, .int .i64 tBk, .int .i64 tBm, s_.1], .bool tBt]), (27, .pointer (some ⟨s_.2, 0, none⟩)), (92, .tuple #[.agg #[.int .i64 tAy, .int .i64 tBh, .int .i64 tBi, .int .i64 tBk, .int .i64 tBm, s_.1], .bool tBt]), (101, .agg #[.int .i64 tAy, .int .i64 tBh, .int .i64 tBi, .int .i64 tBk, .int .i64 tBm, s_.1]), (102, .bool tBt)]) (fun s_ w' => (w'.cell? ⟨gbAb, 0, none⟩ = some (.int .i64 tAi) ∧ w'.cell? ⟨gbAb, 1, none⟩ = some (.int .i64 tAn) ∧ w'.cell? ⟨gbAb, 2, none⟩ = some (.int .i64 tAp) ∧ w'.cell? ⟨gbAb, 3, none⟩ = some (.int .i64 tAr) ∧ w'.cell? ⟨gbAb, 4, none⟩ = some (.int .i64 tAt) ∧ w'.cell? ⟨gbAb, 5, none⟩ = some (.slice Ao30 tAk.length co30) ∧ w'.cell? (adBg.add (x22_2).toNat) = some (.string (rdOf ByteArray.empty yAs x22_2))) ∧ (Kd.R (Kd.int .i64) 3 w' w.heap.size (fun k_ => some k_ ≠ (.slice Ao30 tAk.length co30 : Value).ownBlock) (.slice (some ado81) yAu.length co81) yAu) ∧ (Kd.R k26 26 w' w.heap.size (fun k_ => some k_ ≠ (s_.1 : Value).ownBlock ∧ some k_ ≠ (.slice Ao38 tAm.length co38 : Value).ownBlock) (.slice Ao92 tAw.length co92) tAw) ∧ (Kd.R k26 26 w' w.heap.size (fun k_ => some k_ ≠ (.slice Ao92 tAw.length co92 : Value).ownBlock ∧ some k_ ≠ (.slice Ao38 tAm.length co38 : Value).ownBlock) s_.1 tBn) ∧ (Kd.R Kd.string 9 w' w.heap.size (fun _ => True) (.slice (some adBg) yAs.length co83) yAs) ∧ (Kd.R (Kd.int .i64) 3 w' w.heap.size (fun k_ => some k_ ≠ (.slice (some ado81) yAu.length co81 : Value).ownBlock) (.slice Ao30 tAk.length co30) tAk) ∧ (Kd.R k26 26 w' w.heap.size (fun k_ => some k_ ≠ (.slice Ao92 tAw.length co92 : Value).ownBlock ∧ some k_ ≠ (s_.1 : Value).ownBlock) (.slice Ao38 tAm.length co38) tAm) ∧ (w'.heap[gbAe]? = some (.cells #[.int .i64 a0_0, .int .i64 a0_1, .int .i64 a0_2, .int .i64 a0_3, .int .i64 a0_4, .slice A0_5 l0_5.length c0_5] 24 (0, 0))) ∧ (w'.heap[gbAf]? = some (.cells #[.int .i64 a1_0, .int .i64 a1_1, .int .i64 a1_2, .int .i64 a1_3, .int .i64 a1_4, .slice A1_5 l1_5.length c1_5] 29 (0, 0))) ∧ (w'.heap[gbAb]? = some (.cells #[.int .i64 tAi, .int .i64 tAn, .int .i64 tAp, .int .i64 tAr, .int .i64 tAt, .slice Ao30 tAk.length co30] 24 (0, 0))) ∧ (w'.heap[gbAd]? = some (.cells #[.int .i64 tAj, .int .i64 x26123001_18, .int .i64 tAx, .int .i64 tBb, .int .i64 tBe, .slice Ao38 tAm.length co38] 29 (0, 0))) ∧ (w'.heap[gbAa]? = some (.cells #[.int .i64 tAq, .int .i64 tBa, .int .i64 tBc, .int .i64 tBd, .int .i64 tBf, .slice Ao92 tAw.length co92] 29 (0, 0))) ∧ (w'.heap[s_.2]? = some (.cells #[.int .i64 0, .int .i64 0, .int .i64 0, .int .i64 0, .int .i64 0, .slice none 0 0] 29 (0, 0))) ∧ (w.heap.size ≤ s_.2) ∧ (w.heap.size ≤ s_.2) ∧ (gbAe ≠ s_.2) ∧ (s_.2 ≠ gbAe) ∧ (gbAf ≠ s_.2) ∧ (s_.2 ≠ gbAf) ∧ (gbAb ≠ s_.2) ∧ (s_.2 ≠ gbAb) ∧ (gbAd ≠ s_.2) ∧ (s_.2 ≠ gbAd) ∧ (gbAa ≠ s_.2) ∧ (s_.2 ≠ gbAa) ∧ (Below w.heap.size w w')) ?_ ?_
       rotate_left
       ·
        intro hCont
        refine two_ (i := 7) (j := 11) (Ni := some 100) (Nj := some 27) #[true, true, true, true, true, true, true, true, false, false, false, false, false, false] #[true, true, true, true, true, true, true, false, false, false, false, true, false, false] rfl rfl rfl rfl (two_of HT_.out (by kernel_rfl)) (by decide) (by decide) (fun K hK => ?_) (fun K hK => ?_)
        ·
         skip
         refine gs_ Try.func41 #[.agg #[.int .i64 tAi, .int .i64 tAn, .int .i64 tAp, .int .i64 tAr, .int .i64 tAt, .slice Ao30 tAk.length co30], .int .i64 tAg, .int .i64 (rd yAu x23_3), .string (rdOf ByteArray.empty yAs x22_2)] ?_
         with_reducible refine (plaitingref10_Right.calls k3 tAi tAn tAp tAr tAt _ _ tAk tAg (rd yAu x23_3) (rdOf ByteArray.empty yAs x22_2) tAy tBh tBi tBk tBm tBn tBt _ ?side1 ?side2 A73.out).mono ?_
         (case side1 => exact cC_ (Kd.R_reads' HO_Ag005.out).2.2)
         (case side2 => exact (Kd.R_reads' HO_Ag005.out).2.1)
         rintro e w96 ⟨vCb, rfl, ho0, hb⟩
         have HS6_ := (hb.cell (World.block_lt_of_cell? _ _ (hHeld.2.2.2.2.2.2))).trans (hHeld.2.2.2.2.2.2)
         refine ⟨_, rfl, ?_⟩
         have HOBu := Aside0.mk (Kd.R_lower (Kd.R_new' (Kd.R_new' ho0 (Kd.R_lt (pR_ HO_Ah005.out))) (Kd.R_lt (pR_ HOAz.out))) (below_size (pH_ HB.out)))
         replace HO_21 := Aside0.mk (Kd.R_below (pR_ HO_21.out) hb)
         replace HO_Ag005 := Aside0.mk (Kd.R_below (pR_ HO_Ag005.out) hb)
         replace HO_Ah005 := Aside0.mk (Kd.R_elder' (pR_ HO_Ah005.out) (Kd.R_base ho0) hb)
         replace HOAv := Aside0.mk (Kd.R_below (pR_ HOAv.out) hb)
         replace HOAz := Aside0.mk (Kd.R_elder' (pR_ HOAz.out) (Kd.R_base ho0) hb)
         replace BKAe := bb_ BKAe hb
         replace BKAf := bb_ BKAf hb
         replace BKAb := bb_ BKAb hb
         replace BKAd := bb_ BKAd hb
         replace BKAa := bb_ BKAa hb
         replace HB := bs_ HB hb
         (try clear hb)
         (try clear hb2)
         (try clear hk)
         (try clear hi)
         (try clear ho0)
         refine hK.out _ _ ⟨bc_ BKAb 0, bc_ BKAb 1, bc_ BKAb 2, bc_ BKAb 3, bc_ BKAb 4, bc_ BKAb 5, HS6_⟩ (fun hHeld => ?_)
         clear hK K
         refine nq_ 100 ?_
         refine pq_ 8 92 HT_ ?_
         refine pq_ 9 101 HT_ ?_
         refine pq_ 10 102 HT_ ?_
         refine oq_ 11 27 HT_ (fun K hK => ?_)
         refine box_step ?hg (N := 27) ?hd (cs := #[.int .i64 0, .int .i64 0, .int .i64 0, .int .i64 0, .int .i64 0, .slice none 0 0]) (t := 29) ?hr ?_; (case hd => rfl); (case hg => rfl); (case hr => first | (go_simp; done) | (go_simp; rfl))
         intro gbAc hg w97 hbox hb
         have HS6_ := (hb.cell (World.block_lt_of_cell? _ _ (hHeld.2.2.2.2.2.2))).trans (hHeld.2.2.2.2.2.2)
         have BKAc := Aside0.mk (hbox)
         have GWAc := Aside0.mk ((by rw [hg]; exact (below_size (pH_ HB.out)) : w.heap.size ≤ gbAc))
         have GEAc := Aside0.mk ((by rw [hg]; exact (below_size (pH_ HB.out)) : w.heap.size ≤ gbAc))
         have NBAe_Ac := Aside0.mk (ltB_ hg BKAe.out)
         have NBAc_Ae := Aside0.mk (ltB_ hg BKAe.out).symm
         have NBAf_Ac := Aside0.mk (ltB_ hg BKAf.out)
         have NBAc_Af := Aside0.mk (ltB_ hg BKAf.out).symm
         have NBAb_Ac := Aside0.mk (ltB_ hg BKAb.out)
         have NBAc_Ab := Aside0.mk (ltB_ hg BKAb.out).symm
         have NBAd_Ac := Aside0.mk (ltB_ hg BKAd.out)
         have NBAc_Ad := Aside0.mk (ltB_ hg BKAd.out).symm
         have NBAa_Ac := Aside0.mk (ltB_ hg BKAa.out)
         have NBAc_Aa := Aside0.mk (ltB_ hg BKAa.out).symm
         replace HO_21 := Aside0.mk (Kd.R_below (pR_ HO_21.out) hb)
         replace HO_Ag005 := Aside0.mk (Kd.R_below (pR_ HO_Ag005.out) hb)
         replace HO_Ah005 := Aside0.mk (Kd.R_below (pR_ HO_Ah005.out) hb)
         replace HOAv := Aside0.mk (Kd.R_below (pR_ HOAv.out) hb)
         replace HOAz := Aside0.mk (Kd.R_below (pR_ HOAz.out) hb)
         replace HOBu := Aside0.mk (Kd.R_below (pR_ HOBu.out) hb)
         replace BKAe := bb_ BKAe hb
         replace BKAf := bb_ BKAf hb
         replace BKAb := bb_ BKAb hb
         replace BKAd := bb_ BKAd hb
         replace BKAa := bb_ BKAa hb
         replace HB := bs_ HB hb
         clear hb hbox hg
         refine hK.out _ _ ⟨bc_ BKAb 0, bc_ BKAb 1, bc_ BKAb 2, bc_ BKAb 3, bc_ BKAb 4, bc_ BKAb 5, HS6_⟩ (fun hHeld => ?_)
         clear hK K
         refine nq_ 27 ?_
         exact norm_ (by simp only [putAll, Act.put, List.setIfInBounds_toArray, List.set_cons_zero, List.set_cons_succ]) (hCont (vCb, gbAc) _ ⟨hHeld, (pR_ HOAv.out), (by (with_reducible repeat (first | apply Kd.R_alloc | apply Kd.R_drewN | apply Kd.R_drew)); exact Kd.R_mono HOAz.out (fun _ hk => ⟨hk.2, hk.1⟩)), (by (with_reducible repeat (first | apply Kd.R_alloc | apply Kd.R_drewN | apply Kd.R_drew)); exact Kd.R_mono HOBu.out (fun _ hk => ⟨hk.2, hk.1.2⟩)), (pR_ HO_21.out), (pR_ HO_Ag005.out), (pR_ HO_Ah005.out), (pB_ BKAe.out), (pB_ BKAf.out), (pB_ BKAb.out), (pB_ BKAd.out), (pB_ BKAa.out), (pB_ BKAc.out), GWAc.out, GEAc.out, NBAe_Ac.out, NBAc_Ae.out, NBAf_Ac.out, NBAc_Af.out, NBAb_Ac.out, NBAc_Ab.out, NBAd_Ac.out, NBAc_Ad.out, NBAa_Ac.out, NBAc_Aa.out, (pH_ HB.out)⟩)
        skip
        refine box_step ?hg (N := 27) ?hd (cs := #[.int .i64 0, .int .i64 0, .int .i64 0, .int .i64 0, .int .i64 0, .slice none 0 0]) (t := 29) ?hr ?_; (case hd => rfl); (case hg => rfl); (case hr => first | (go_simp; done) | (go_simp; rfl))
        intro gbAc hg w96 hbox hb
        have HS6_ := (hb.cell (World.block_lt_of_cell? _ _ (hHeld.2.2.2.2.2.2))).trans (hHeld.2.2.2.2.2.2)
        have BKAc := Aside0.mk (hbox)
        have GWAc := Aside0.mk ((by rw [hg]; exact (below_size (pH_ HB.out)) : w.heap.size ≤ gbAc))
        have GEAc := Aside0.mk ((by rw [hg]; exact (below_size (pH_ HB.out)) : w.heap.size ≤ gbAc))
        have NBAe_Ac := Aside0.mk (ltB_ hg BKAe.out)
        have NBAc_Ae := Aside0.mk (ltB_ hg BKAe.out).symm
        have NBAf_Ac := Aside0.mk (ltB_ hg BKAf.out)
        have NBAc_Af := Aside0.mk (ltB_ hg BKAf.out).symm
        have NBAb_Ac := Aside0.mk (ltB_ hg BKAb.out)
        have NBAc_Ab := Aside0.mk (ltB_ hg BKAb.out).symm
        have NBAd_Ac := Aside0.mk (ltB_ hg BKAd.out)
        have NBAc_Ad := Aside0.mk (ltB_ hg BKAd.out).symm
        have NBAa_Ac := Aside0.mk (ltB_ hg BKAa.out)
        have NBAc_Aa := Aside0.mk (ltB_ hg BKAa.out).symm
        replace HO_21 := Aside0.mk (Kd.R_below (pR_ HO_21.out) hb)
        replace HO_Ag005 := Aside0.mk (Kd.R_below (pR_ HO_Ag005.out) hb)
        replace HO_Ah005 := Aside0.mk (Kd.R_below (pR_ HO_Ah005.out) hb)
        replace HOAv := Aside0.mk (Kd.R_below (pR_ HOAv.out) hb)
        replace HOAz := Aside0.mk (Kd.R_below (pR_ HOAz.out) hb)
        replace BKAe := bb_ BKAe hb
        replace BKAf := bb_ BKAf hb
        replace BKAb := bb_ BKAb hb
        replace BKAd := bb_ BKAd hb
        replace BKAa := bb_ BKAa hb
        replace HB := bs_ HB hb
        clear hb hbox hg
        refine hK.out _ _ ⟨bc_ BKAb 0, bc_ BKAb 1, bc_ BKAb 2, bc_ BKAb 3, bc_ BKAb 4, bc_ BKAb 5, HS6_⟩ (fun hHeld => ?_)
        clear hK K
        refine nq_ 27 ?_
        refine oq_ 7 100 HT_ (fun K hK => ?_)
        refine gs_ Try.func41 #[.agg #[.int .i64 tAi, .int .i64 tAn, .int .i64 tAp, .int .i64 tAr, .int .i64 tAt, .slice Ao30 tAk.length co30], .int .i64 tAg, .int .i64 (rd yAu x23_3), .string (rdOf ByteArray.empty yAs x22_2)] ?_
        with_reducible refine (plaitingref10_Right.calls k3 tAi tAn tAp tAr tAt _ _ tAk tAg (rd yAu x23_3) (rdOf ByteArray.empty yAs x22_2) tAy tBh tBi tBk tBm tBn tBt _ ?side1 ?side2 A73.out).mono ?_
        (case side1 => exact cC_ (Kd.R_reads' HO_Ag005.out).2.2)
        (case side2 => exact (Kd.R_reads' HO_Ag005.out).2.1)
        rintro e w97 ⟨vCb, rfl, ho0, hb⟩
        have HS6_ := (hb.cell (World.block_lt_of_cell? _ _ (hHeld.2.2.2.2.2.2))).trans (hHeld.2.2.2.2.2.2)
        refine ⟨_, rfl, ?_⟩
        have HOBu := Aside0.mk (Kd.R_lower (Kd.R_new' (Kd.R_new' ho0 (Kd.R_lt (pR_ HO_Ah005.out))) (Kd.R_lt (pR_ HOAz.out))) (below_size (pH_ HB.out)))
        replace HO_21 := Aside0.mk (Kd.R_below (pR_ HO_21.out) hb)
        replace HO_Ag005 := Aside0.mk (Kd.R_below (pR_ HO_Ag005.out) hb)
        replace HO_Ah005 := Aside0.mk (Kd.R_elder' (pR_ HO_Ah005.out) (Kd.R_base ho0) hb)
        replace HOAv := Aside0.mk (Kd.R_below (pR_ HOAv.out) hb)
        replace HOAz := Aside0.mk (Kd.R_elder' (pR_ HOAz.out) (Kd.R_base ho0) hb)
        replace BKAe := bb_ BKAe hb
        replace BKAf := bb_ BKAf hb
        replace BKAb := bb_ BKAb hb
        replace BKAd := bb_ BKAd hb
        replace BKAa := bb_ BKAa hb
        replace BKAc := bb_ BKAc hb
        replace HB := bs_ HB hb
        (try clear hb)
        (try clear hb2)
        (try clear hk)
        (try clear hi)
        (try clear ho0)
        refine hK.out _ _ ⟨bc_ BKAb 0, bc_ BKAb 1, bc_ BKAb 2, bc_ BKAb 3, bc_ BKAb 4, bc_ BKAb 5, HS6_⟩ (fun hHeld => ?_)
        clear hK K
        refine nq_ 100 ?_
        refine pq_ 8 92 HT_ ?_
        refine pq_ 9 101 HT_ ?_
        refine pq_ 10 102 HT_ ?_
        exact norm_ (by simp only [putAll, Act.put, List.setIfInBounds_toArray, List.set_cons_zero, List.set_cons_succ]) (hCont (vCb, gbAc) _ ⟨hHeld, (pR_ HOAv.out), (by (with_reducible repeat (first | apply Kd.R_alloc | apply Kd.R_drewN | apply Kd.R_drew)); exact Kd.R_mono HOAz.out (fun _ hk => ⟨hk.2, hk.1⟩)), (by (with_reducible repeat (first | apply Kd.R_alloc | apply Kd.R_drewN | apply Kd.R_drew)); exact Kd.R_mono HOBu.out (fun _ hk => ⟨hk.2, hk.1.2⟩)), (pR_ HO_21.out), (pR_ HO_Ag005.out), (pR_ HO_Ah005.out), (pB_ BKAe.out), (pB_ BKAf.out), (pB_ BKAb.out), (pB_ BKAd.out), (pB_ BKAa.out), (pB_ BKAc.out), GWAc.out, GEAc.out, NBAe_Ac.out, NBAc_Ae.out, NBAf_Ac.out, NBAc_Af.out, NBAb_Ac.out, NBAc_Ab.out, NBAd_Ac.out, NBAc_Ad.out, NBAa_Ac.out, NBAc_Aa.out, (pH_ HB.out)⟩)
       rintro ⟨vCb, gbAc⟩ w98 ⟨hS_, h0_, h1_, h2_, h3_, h4_, h5_, h6_, h7_, h8_, h9_, h10_, h11_, h12_, h13_, h14_, h15_, h16_, h17_, h18_, h19_, h20_, h21_, h22_, h23_, h24_⟩
       have n0_ : Aside0 (Kd.R (Kd.int .i64) 3 w98 w.heap.size (fun k_ => some k_ ≠ (.slice Ao30 tAk.length co30 : Value).ownBlock) (.slice (some ado81) yAu.length co81) yAu) := ⟨h0_⟩
       have n1_ : Aside0 (Kd.R k26 26 w98 w.heap.size (fun k_ => some k_ ≠ (vCb : Value).ownBlock ∧ some k_ ≠ (.slice Ao38 tAm.length co38 : Value).ownBlock) (.slice Ao92 tAw.length co92) tAw) := ⟨h1_⟩
       have n2_ : Aside0 (Kd.R k26 26 w98 w.heap.size (fun k_ => some k_ ≠ (.slice Ao92 tAw.length co92 : Value).ownBlock ∧ some k_ ≠ (.slice Ao38 tAm.length co38 : Value).ownBlock) vCb tBn) := ⟨h2_⟩
       have n3_ : Aside0 (Kd.R Kd.string 9 w98 w.heap.size (fun _ => True) (.slice (some adBg) yAs.length co83) yAs) := ⟨h3_⟩
       have n4_ : Aside0 (Kd.R (Kd.int .i64) 3 w98 w.heap.size (fun k_ => some k_ ≠ (.slice (some ado81) yAu.length co81 : Value).ownBlock) (.slice Ao30 tAk.length co30) tAk) := ⟨h4_⟩
       have n5_ : Aside0 (Kd.R k26 26 w98 w.heap.size (fun k_ => some k_ ≠ (.slice Ao92 tAw.length co92 : Value).ownBlock ∧ some k_ ≠ (vCb : Value).ownBlock) (.slice Ao38 tAm.length co38) tAm) := ⟨h5_⟩
       have n6_ : Aside0 (w98.heap[gbAe]? = some (.cells #[.int .i64 a0_0, .int .i64 a0_1, .int .i64 a0_2, .int .i64 a0_3, .int .i64 a0_4, .slice A0_5 l0_5.length c0_5] 24 (0, 0))) := ⟨h6_⟩
       have n7_ : Aside0 (w98.heap[gbAf]? = some (.cells #[.int .i64 a1_0, .int .i64 a1_1, .int .i64 a1_2, .int .i64 a1_3, .int .i64 a1_4, .slice A1_5 l1_5.length c1_5] 29 (0, 0))) := ⟨h7_⟩
       have n8_ : Aside0 (w98.heap[gbAb]? = some (.cells #[.int .i64 tAi, .int .i64 tAn, .int .i64 tAp, .int .i64 tAr, .int .i64 tAt, .slice Ao30 tAk.length co30] 24 (0, 0))) := ⟨h8_⟩
       have n9_ : Aside0 (w98.heap[gbAd]? = some (.cells #[.int .i64 tAj, .int .i64 x26123001_18, .int .i64 tAx, .int .i64 tBb, .int .i64 tBe, .slice Ao38 tAm.length co38] 29 (0, 0))) := ⟨h9_⟩
       have n10_ : Aside0 (w98.heap[gbAa]? = some (.cells #[.int .i64 tAq, .int .i64 tBa, .int .i64 tBc, .int .i64 tBd, .int .i64 tBf, .slice Ao92 tAw.length co92] 29 (0, 0))) := ⟨h10_⟩
       have n11_ : Aside0 (w98.heap[gbAc]? = some (.cells #[.int .i64 0, .int .i64 0, .int .i64 0, .int .i64 0, .int .i64 0, .slice none 0 0] 29 (0, 0))) := ⟨h11_⟩
       have n12_ : Aside0 (w.heap.size ≤ gbAc) := ⟨h12_⟩
       have n13_ : Aside0 (w.heap.size ≤ gbAc) := ⟨h13_⟩
       have n14_ : Aside0 (gbAe ≠ gbAc) := ⟨h14_⟩
       have n15_ : Aside0 (gbAc ≠ gbAe) := ⟨h15_⟩
       have n16_ : Aside0 (gbAf ≠ gbAc) := ⟨h16_⟩
       have n17_ : Aside0 (gbAc ≠ gbAf) := ⟨h17_⟩
       have n18_ : Aside0 (gbAb ≠ gbAc) := ⟨h18_⟩
       have n19_ : Aside0 (gbAc ≠ gbAb) := ⟨h19_⟩
       have n20_ : Aside0 (gbAd ≠ gbAc) := ⟨h20_⟩
       have n21_ : Aside0 (gbAc ≠ gbAd) := ⟨h21_⟩
       have n22_ : Aside0 (gbAa ≠ gbAc) := ⟨h22_⟩
       have n23_ : Aside0 (gbAc ≠ gbAa) := ⟨h23_⟩
       have n24_ : Aside0 (Below w.heap.size w w98) := ⟨h24_⟩
       clear HO_21
       clear HO_Ag005
       clear HO_Ah005
       clear HOAv
       clear HOAz
       clear BKAe
       clear BKAf
       clear BKAb
       clear BKAd
       clear BKAa
       clear HB
       clear h0_ h1_ h2_ h3_ h4_ h5_ h6_ h7_ h8_ h9_ h10_ h11_ h12_ h13_ h14_ h15_ h16_ h17_ h18_ h19_ h20_ h21_ h22_ h23_ h24_
       have HOAv := n0_
       have HOAz := n1_
       have HOBu := n2_
       have HO_21 := n3_
       have HO_Ag005 := n4_
       have HO_Ah005 := n5_
       have BKAe := n6_
       have BKAf := n7_
       have BKAb := n8_
       have BKAd := n9_
       have BKAa := n10_
       have BKAc := n11_
       have GWAc := n12_
       have GEAc := n13_
       have NBAe_Ac := n14_
       have NBAc_Ae := n15_
       have NBAf_Ac := n16_
       have NBAc_Af := n17_
       have NBAb_Ac := n18_
       have NBAc_Ab := n19_
       have NBAd_Ac := n20_
       have NBAc_Ad := n21_
       have NBAa_Ac := n22_
       have NBAc_Aa := n23_
       have HB := n24_
       clear n0_ n1_ n2_ n3_ n4_ n5_ n6_ n7_ n8_ n9_ n10_ n11_ n12_ n13_ n14_ n15_ n16_ n17_ n18_ n19_ n20_ n21_ n22_ n23_ n24_
       have hHeld : w98.cell? ⟨gbAb, 0, none⟩ = some (.int .i64 tAi) ∧ w98.cell? ⟨gbAb, 1, none⟩ = some (.int .i64 tAn) ∧ w98.cell? ⟨gbAb, 2, none⟩ = some (.int .i64 tAp) ∧ w98.cell? ⟨gbAb, 3, none⟩ = some (.int .i64 tAr) ∧ w98.cell? ⟨gbAb, 4, none⟩ = some (.int .i64 tAt) ∧ w98.cell? ⟨gbAb, 5, none⟩ = some (.slice Ao30 tAk.length co30) ∧ w98.cell? (adBg.add (x22_2).toNat) = some (.string (rdOf ByteArray.empty yAs x22_2)) := hS_
       obtain ⟨Ao104, co104, eo104⟩ := Kd.R_slice HOBu.out
       (first | subst eo104 | (injection eo104 with f1_ f2_ f3_; have f4_ := f1_.symm; have f5_ := f3_.symm; clear f1_ f2_ f3_; subst f4_; subst f5_))
       refine norm_ (a' := ?_) ?_ ?_
       rotate_left
       ·
        simp only [putAll, Act.put, List.setIfInBounds_toArray, List.set_cons_zero, List.set_cons_succ]
        rfl
       refine one_ (i := 12) (N := none) #[true, true, true, true, true, true, true, true, true, true, true, true, true, false] rfl rfl (one_of HT_.out (by kernel_rfl)) (by decide) (fun K hK => ?_)
       have hs99 : w98.cell? ⟨gbAc, 0, none⟩ = some (.int .i64 0) := bc_ BKAc 0
       have hfs99 := blk_frozen BKAc.out 0
       have hns99_0 := NBAe_Ac.out
       have hns99_1 := NBAf_Ac.out
       have hns99_2 := NBAb_Ac.out
       have hns99_3 := NBAd_Ac.out
       have hns99_4 := NBAa_Ac.out
       have hms99_0 := NBAc_Ae.out
       have hms99_1 := NBAc_Af.out
       have hms99_2 := NBAc_Ab.out
       have hms99_3 := NBAc_Ad.out
       have hms99_4 := NBAc_Aa.out
       have hs100 : w98.cell? ⟨gbAc, 1, none⟩ = some (.int .i64 0) := bc_ BKAc 1
       have hfs100 := blk_frozen BKAc.out 1
       have hns100_0 := NBAe_Ac.out
       have hns100_1 := NBAf_Ac.out
       have hns100_2 := NBAb_Ac.out
       have hns100_3 := NBAd_Ac.out
       have hns100_4 := NBAa_Ac.out
       have hms100_0 := NBAc_Ae.out
       have hms100_1 := NBAc_Af.out
       have hms100_2 := NBAc_Ab.out
       have hms100_3 := NBAc_Ad.out
       have hms100_4 := NBAc_Aa.out
       have hs101 : w98.cell? ⟨gbAc, 2, none⟩ = some (.int .i64 0) := bc_ BKAc 2
       have hfs101 := blk_frozen BKAc.out 2
       have hns101_0 := NBAe_Ac.out
       have hns101_1 := NBAf_Ac.out
       have hns101_2 := NBAb_Ac.out
       have hns101_3 := NBAd_Ac.out
       have hns101_4 := NBAa_Ac.out
       have hms101_0 := NBAc_Ae.out
       have hms101_1 := NBAc_Af.out
       have hms101_2 := NBAc_Ab.out
       have hms101_3 := NBAc_Ad.out
       have hms101_4 := NBAc_Aa.out
       have hs102 : w98.cell? ⟨gbAc, 3, none⟩ = some (.int .i64 0) := bc_ BKAc 3
       have hfs102 := blk_frozen BKAc.out 3
       have hns102_0 := NBAe_Ac.out
       have hns102_1 := NBAf_Ac.out
       have hns102_2 := NBAb_Ac.out
       have hns102_3 := NBAd_Ac.out
       have hns102_4 := NBAa_Ac.out
       have hms102_0 := NBAc_Ae.out
       have hms102_1 := NBAc_Af.out
       have hms102_2 := NBAc_Ab.out
       have hms102_3 := NBAc_Ad.out
       have hms102_4 := NBAc_Aa.out
       have hs103 : w98.cell? ⟨gbAc, 4, none⟩ = some (.int .i64 0) := bc_ BKAc 4
       have hfs103 := blk_frozen BKAc.out 4
       have hns103_0 := NBAe_Ac.out
       have hns103_1 := NBAf_Ac.out
       have hns103_2 := NBAb_Ac.out
       have hns103_3 := NBAd_Ac.out
       have hns103_4 := NBAa_Ac.out
       have hms103_0 := NBAc_Ae.out
       have hms103_1 := NBAc_Af.out
       have hms103_2 := NBAc_Ab.out
       have hms103_3 := NBAc_Ad.out
       have hms103_4 := NBAc_Aa.out
       have hs105 : w98.cell? ⟨gbAc, 5, none⟩ = some (.slice none 0 0) := bc_ BKAc 5
       have hfs105 := blk_frozen BKAc.out 5
       have hns105_0 := NBAe_Ac.out
       have hns105_1 := NBAf_Ac.out
       have hns105_2 := NBAb_Ac.out
       have hns105_3 := NBAd_Ac.out
       have hns105_4 := NBAa_Ac.out
       have hms105_0 := NBAc_Ae.out
       have hms105_1 := NBAc_Af.out
       have hms105_2 := NBAc_Ab.out
       have hms105_3 := NBAc_Ad.out
       have hms105_4 := NBAc_Aa.out
       refine skip_ (w1 := ?_) (by rfl) rfl ?_ ?_
       rotate_left
       ·
        go_simp
        rfl
       refine hK.out _ _ ⟨((cell_far (p := ⟨gbAc, _, none⟩) NBAb_Ac.out _).trans (((cell_far (p := ⟨gbAc, _, none⟩) NBAb_Ac.out _).trans (((cell_far (p := ⟨gbAc, _, none⟩) NBAb_Ac.out _).trans (((cell_far (p := ⟨gbAc, _, none⟩) NBAb_Ac.out _).trans (((cell_far (p := ⟨gbAc, _, none⟩) NBAb_Ac.out _).trans (((cell_far (p := ⟨gbAc, _, none⟩) NBAb_Ac.out _).trans (hHeld.1)))))))))))), ((cell_far (p := ⟨gbAc, _, none⟩) NBAb_Ac.out _).trans (((cell_far (p := ⟨gbAc, _, none⟩) NBAb_Ac.out _).trans (((cell_far (p := ⟨gbAc, _, none⟩) NBAb_Ac.out _).trans (((cell_far (p := ⟨gbAc, _, none⟩) NBAb_Ac.out _).trans (((cell_far (p := ⟨gbAc, _, none⟩) NBAb_Ac.out _).trans (((cell_far (p := ⟨gbAc, _, none⟩) NBAb_Ac.out _).trans (hHeld.2.1)))))))))))), ((cell_far (p := ⟨gbAc, _, none⟩) NBAb_Ac.out _).trans (((cell_far (p := ⟨gbAc, _, none⟩) NBAb_Ac.out _).trans (((cell_far (p := ⟨gbAc, _, none⟩) NBAb_Ac.out _).trans (((cell_far (p := ⟨gbAc, _, none⟩) NBAb_Ac.out _).trans (((cell_far (p := ⟨gbAc, _, none⟩) NBAb_Ac.out _).trans (((cell_far (p := ⟨gbAc, _, none⟩) NBAb_Ac.out _).trans (hHeld.2.2.1)))))))))))), ((cell_far (p := ⟨gbAc, _, none⟩) NBAb_Ac.out _).trans (((cell_far (p := ⟨gbAc, _, none⟩) NBAb_Ac.out _).trans (((cell_far (p := ⟨gbAc, _, none⟩) NBAb_Ac.out _).trans (((cell_far (p := ⟨gbAc, _, none⟩) NBAb_Ac.out _).trans (((cell_far (p := ⟨gbAc, _, none⟩) NBAb_Ac.out _).trans (((cell_far (p := ⟨gbAc, _, none⟩) NBAb_Ac.out _).trans (hHeld.2.2.2.1)))))))))))), ((cell_far (p := ⟨gbAc, _, none⟩) NBAb_Ac.out _).trans (((cell_far (p := ⟨gbAc, _, none⟩) NBAb_Ac.out _).trans (((cell_far (p := ⟨gbAc, _, none⟩) NBAb_Ac.out _).trans (((cell_far (p := ⟨gbAc, _, none⟩) NBAb_Ac.out _).trans (((cell_far (p := ⟨gbAc, _, none⟩) NBAb_Ac.out _).trans (((cell_far (p := ⟨gbAc, _, none⟩) NBAb_Ac.out _).trans (hHeld.2.2.2.2.1)))))))))))), ((cell_far (p := ⟨gbAc, _, none⟩) NBAb_Ac.out _).trans (((cell_far (p := ⟨gbAc, _, none⟩) NBAb_Ac.out _).trans (((cell_far (p := ⟨gbAc, _, none⟩) NBAb_Ac.out _).trans (((cell_far (p := ⟨gbAc, _, none⟩) NBAb_Ac.out _).trans (((cell_far (p := ⟨gbAc, _, none⟩) NBAb_Ac.out _).trans (((cell_far (p := ⟨gbAc, _, none⟩) NBAb_Ac.out _).trans (hHeld.2.2.2.2.2.1)))))))))))), ((cell_far (p := ⟨gbAc, _, none⟩) (by first | exact Kd.own_blk (Kd.R_ne HO_21.out BKAc.out (by decide)) | (rw [add_block]; exact Kd.own_blk (Kd.R_ne HO_21.out BKAc.out (by decide))) | (show (Addr.add _ _).block ≠ _; rw [add_block]; exact Kd.own_blk (Kd.R_ne HO_21.out BKAc.out (by decide))) | (dsimp only; exact Kd.own_blk (Kd.R_ne HO_21.out BKAc.out (by decide)))) _).trans (((cell_far (p := ⟨gbAc, _, none⟩) (by first | exact Kd.own_blk (Kd.R_ne HO_21.out BKAc.out (by decide)) | (rw [add_block]; exact Kd.own_blk (Kd.R_ne HO_21.out BKAc.out (by decide))) | (show (Addr.add _ _).block ≠ _; rw [add_block]; exact Kd.own_blk (Kd.R_ne HO_21.out BKAc.out (by decide))) | (dsimp only; exact Kd.own_blk (Kd.R_ne HO_21.out BKAc.out (by decide)))) _).trans (((cell_far (p := ⟨gbAc, _, none⟩) (by first | exact Kd.own_blk (Kd.R_ne HO_21.out BKAc.out (by decide)) | (rw [add_block]; exact Kd.own_blk (Kd.R_ne HO_21.out BKAc.out (by decide))) | (show (Addr.add _ _).block ≠ _; rw [add_block]; exact Kd.own_blk (Kd.R_ne HO_21.out BKAc.out (by decide))) | (dsimp only; exact Kd.own_blk (Kd.R_ne HO_21.out BKAc.out (by decide)))) _).trans (((cell_far (p := ⟨gbAc, _, none⟩) (by first | exact Kd.own_blk (Kd.R_ne HO_21.out BKAc.out (by decide)) | (rw [add_block]; exact Kd.own_blk (Kd.R_ne HO_21.out BKAc.out (by decide))) | (show (Addr.add _ _).block ≠ _; rw [add_block]; exact Kd.own_blk (Kd.R_ne HO_21.out BKAc.out (by decide))) | (dsimp only; exact Kd.own_blk (Kd.R_ne HO_21.out BKAc.out (by decide)))) _).trans (((cell_far (p := ⟨gbAc, _, none⟩) (by first | exact Kd.own_blk (Kd.R_ne HO_21.out BKAc.out (by decide)) | (rw [add_block]; exact Kd.own_blk (Kd.R_ne HO_21.out BKAc.out (by decide))) | (show (Addr.add _ _).block ≠ _; rw [add_block]; exact Kd.own_blk (Kd.R_ne HO_21.out BKAc.out (by decide))) | (dsimp only; exact Kd.own_blk (Kd.R_ne HO_21.out BKAc.out (by decide)))) _).trans (((cell_far (p := ⟨gbAc, _, none⟩) (by first | exact Kd.own_blk (Kd.R_ne HO_21.out BKAc.out (by decide)) | (rw [add_block]; exact Kd.own_blk (Kd.R_ne HO_21.out BKAc.out (by decide))) | (show (Addr.add _ _).block ≠ _; rw [add_block]; exact Kd.own_blk (Kd.R_ne HO_21.out BKAc.out (by decide))) | (dsimp only; exact Kd.own_blk (Kd.R_ne HO_21.out BKAc.out (by decide)))) _).trans (hHeld.2.2.2.2.2.2))))))))))))⟩ (fun hHeld => ?_)
       clear hK K
       refine pq_ 13 28 HT_ ?_
       refine done_ (done_of HT_.out (by kernel_rfl)) ?_
       have hnb106 := NBAa_Ae.out
       have hnc106 := NBAe_Aa.out
       have hnb107 := NBAa_Af.out
       have hnc107 := NBAf_Aa.out
       have hnb108 := NBAa_Ab.out
       have hnc108 := NBAb_Aa.out
       have hnb109 := NBAa_Ad.out
       have hnc109 := NBAd_Aa.out
       have hnb110 := NBAa_Ac.out
       have hnc110 := NBAc_Aa.out
       obtain ⟨hcz111_0, hcz111_1, hcz111_2, hcz111_3, hcz111_4, hcz111_5⟩ := c6_ BKAa
       obtain ⟨hfz111_0, hfz111_1, hfz111_2, hfz111_3, hfz111_4, hfz111_5⟩ := f6_ BKAa
       have hnb112 := NBAc_Ae.out
       have hnc112 := NBAe_Ac.out
       have hnb113 := NBAc_Af.out
       have hnc113 := NBAf_Ac.out
       have hnb114 := NBAc_Ab.out
       have hnc114 := NBAb_Ac.out
       have hnb115 := NBAc_Ad.out
       have hnc115 := NBAd_Ac.out
       obtain ⟨hcz116_0, hcz116_1, hcz116_2, hcz116_3, hcz116_4, hcz116_5⟩ := c6_ BKAc
       obtain ⟨hfz116_0, hfz116_1, hfz116_2, hfz116_3, hfz116_4, hfz116_5⟩ := f6_ BKAc
       try go_wp2_with (first | (go_at_call 30; (with_reducible refine (plaitingref5_Same.calls k3 tAq tBa tBc tBd tBf _ _ tAw tAy tBh tBi tBk tBm _ _ tBn true _ ?side1 ?side2 ?side3 ?side4 A75.out).mono ?_); (case side1 => refine (Kd.R_reads' (e := 26) (base := w.heap.size) (ok := fun k_ => (some k_ ≠ (.slice Ao104 tBn.length co104 : Value).ownBlock ∧ some k_ ≠ (.slice Ao38 tAm.length co38 : Value).ownBlock)) (n := tAw.length) (c := co92) ?_).2.2; exact (by (with_reducible repeat (first | apply Kd.R_alloc | apply Kd.R_drewN | apply Kd.R_drew)); exact (Kd.R_mono (Kd.R_far (p := ⟨gbAc, 5, none⟩) (Kd.R_far (p := ⟨gbAc, 4, none⟩) (Kd.R_far (p := ⟨gbAc, 3, none⟩) (Kd.R_far (p := ⟨gbAc, 2, none⟩) (Kd.R_far (p := ⟨gbAc, 1, none⟩) (Kd.R_far (p := ⟨gbAc, 0, none⟩) (Kd.R_types HOAz.out BKAc.out (by decide)) (fun _ hk => hk.2) (.int .i64 tAy)) (fun _ hk => hk.2) (.int .i64 tBh)) (fun _ hk => hk.2) (.int .i64 tBi)) (fun _ hk => hk.2) (.int .i64 tBk)) (fun _ hk => hk.2) (.int .i64 tBm)) (fun _ hk => hk.2) (.slice Ao104 tBn.length co104)) (fun _ h_ => h_.1)))); (case side2 => exact (Kd.R_reads' HOAz.out).2.1); (case side3 => refine (Kd.R_reads' (e := 26) (base := w.heap.size) (ok := fun k_ => (some k_ ≠ (.slice Ao92 tAw.length co92 : Value).ownBlock ∧ some k_ ≠ (.slice Ao38 tAm.length co38 : Value).ownBlock)) (n := tBn.length) (c := co104) ?_).2.2; exact (by (with_reducible repeat (first | apply Kd.R_alloc | apply Kd.R_drewN | apply Kd.R_drew)); exact (Kd.R_mono (Kd.R_far (p := ⟨gbAc, 5, none⟩) (Kd.R_far (p := ⟨gbAc, 4, none⟩) (Kd.R_far (p := ⟨gbAc, 3, none⟩) (Kd.R_far (p := ⟨gbAc, 2, none⟩) (Kd.R_far (p := ⟨gbAc, 1, none⟩) (Kd.R_far (p := ⟨gbAc, 0, none⟩) (Kd.R_types HOBu.out BKAc.out (by decide)) (fun _ hk => hk.2) (.int .i64 tAy)) (fun _ hk => hk.2) (.int .i64 tBh)) (fun _ hk => hk.2) (.int .i64 tBi)) (fun _ hk => hk.2) (.int .i64 tBk)) (fun _ hk => hk.2) (.int .i64 tBm)) (fun _ hk => hk.2) (.slice Ao104 tBn.length co104)) (fun _ h_ => h_.1)))); (case side4 => exact (Kd.R_reads' HOBu.out).2.1); rintro e w117 ⟨rfl, hb⟩; have n0_ := Aside0.mk (Kd.R_below (by (with_reducible repeat (first | apply Kd.R_alloc | apply Kd.R_drewN | apply Kd.R_drew)); exact (Kd.R_mono (Kd.R_far (p := ⟨gbAc, 5, none⟩) (Kd.R_far (p := ⟨gbAc, 4, none⟩) (Kd.R_far (p := ⟨gbAc, 3, none⟩) (Kd.R_far (p := ⟨gbAc, 2, none⟩) (Kd.R_far (p := ⟨gbAc, 1, none⟩) (Kd.R_far (p := ⟨gbAc, 0, none⟩) (Kd.R_types HO_21.out BKAc.out (by decide)) (fun _ hk => hk.2) (.int .i64 tAy)) (fun _ hk => hk.2) (.int .i64 tBh)) (fun _ hk => hk.2) (.int .i64 tBi)) (fun _ hk => hk.2) (.int .i64 tBk)) (fun _ hk => hk.2) (.int .i64 tBm)) (fun _ hk => hk.2) (.slice Ao104 tBn.length co104)) (fun _ h_ => h_.1))) hb); have n1_ := Aside0.mk (Kd.R_below (by (with_reducible repeat (first | apply Kd.R_alloc | apply Kd.R_drewN | apply Kd.R_drew)); exact (Kd.R_mono (Kd.R_far (p := ⟨gbAc, 5, none⟩) (Kd.R_far (p := ⟨gbAc, 4, none⟩) (Kd.R_far (p := ⟨gbAc, 3, none⟩) (Kd.R_far (p := ⟨gbAc, 2, none⟩) (Kd.R_far (p := ⟨gbAc, 1, none⟩) (Kd.R_far (p := ⟨gbAc, 0, none⟩) (Kd.R_types HO_Ag005.out BKAc.out (by decide)) (fun _ hk => hk.2) (.int .i64 tAy)) (fun _ hk => hk.2) (.int .i64 tBh)) (fun _ hk => hk.2) (.int .i64 tBi)) (fun _ hk => hk.2) (.int .i64 tBk)) (fun _ hk => hk.2) (.int .i64 tBm)) (fun _ hk => hk.2) (.slice Ao104 tBn.length co104)) (fun _ h_ => h_.1))) hb); have n2_ := Aside0.mk (Kd.R_below (by (with_reducible repeat (first | apply Kd.R_alloc | apply Kd.R_drewN | apply Kd.R_drew)); exact (Kd.R_mono (Kd.R_far (p := ⟨gbAc, 5, none⟩) (Kd.R_far (p := ⟨gbAc, 4, none⟩) (Kd.R_far (p := ⟨gbAc, 3, none⟩) (Kd.R_far (p := ⟨gbAc, 2, none⟩) (Kd.R_far (p := ⟨gbAc, 1, none⟩) (Kd.R_far (p := ⟨gbAc, 0, none⟩) (Kd.R_types HO_Ah005.out BKAc.out (by decide)) (fun _ hk => hk.2) (.int .i64 tAy)) (fun _ hk => hk.2) (.int .i64 tBh)) (fun _ hk => hk.2) (.int .i64 tBi)) (fun _ hk => hk.2) (.int .i64 tBk)) (fun _ hk => hk.2) (.int .i64 tBm)) (fun _ hk => hk.2) (.slice Ao104 tBn.length co104)) (fun _ h_ => h_.1))) hb); have n3_ := Aside0.mk (Kd.R_below (by (with_reducible repeat (first | apply Kd.R_alloc | apply Kd.R_drewN | apply Kd.R_drew)); exact (Kd.R_mono (Kd.R_far (p := ⟨gbAc, 5, none⟩) (Kd.R_far (p := ⟨gbAc, 4, none⟩) (Kd.R_far (p := ⟨gbAc, 3, none⟩) (Kd.R_far (p := ⟨gbAc, 2, none⟩) (Kd.R_far (p := ⟨gbAc, 1, none⟩) (Kd.R_far (p := ⟨gbAc, 0, none⟩) (Kd.R_types HOAv.out BKAc.out (by decide)) (fun _ hk => hk.2) (.int .i64 tAy)) (fun _ hk => hk.2) (.int .i64 tBh)) (fun _ hk => hk.2) (.int .i64 tBi)) (fun _ hk => hk.2) (.int .i64 tBk)) (fun _ hk => hk.2) (.int .i64 tBm)) (fun _ hk => hk.2) (.slice Ao104 tBn.length co104)) (fun _ h_ => h_.1))) hb); have n4_ := Aside0.mk (Kd.R_below (by (with_reducible repeat (first | apply Kd.R_alloc | apply Kd.R_drewN | apply Kd.R_drew)); exact (Kd.R_mono (Kd.R_far (p := ⟨gbAc, 5, none⟩) (Kd.R_far (p := ⟨gbAc, 4, none⟩) (Kd.R_far (p := ⟨gbAc, 3, none⟩) (Kd.R_far (p := ⟨gbAc, 2, none⟩) (Kd.R_far (p := ⟨gbAc, 1, none⟩) (Kd.R_far (p := ⟨gbAc, 0, none⟩) (Kd.R_types HOAz.out BKAc.out (by decide)) (fun _ hk => hk.2) (.int .i64 tAy)) (fun _ hk => hk.2) (.int .i64 tBh)) (fun _ hk => hk.2) (.int .i64 tBi)) (fun _ hk => hk.2) (.int .i64 tBk)) (fun _ hk => hk.2) (.int .i64 tBm)) (fun _ hk => hk.2) (.slice Ao104 tBn.length co104)) (fun _ h_ => h_.1))) hb); have n5_ := Aside0.mk (Kd.R_below (by (with_reducible repeat (first | apply Kd.R_alloc | apply Kd.R_drewN | apply Kd.R_drew)); exact (Kd.R_mono (Kd.R_far (p := ⟨gbAc, 5, none⟩) (Kd.R_far (p := ⟨gbAc, 4, none⟩) (Kd.R_far (p := ⟨gbAc, 3, none⟩) (Kd.R_far (p := ⟨gbAc, 2, none⟩) (Kd.R_far (p := ⟨gbAc, 1, none⟩) (Kd.R_far (p := ⟨gbAc, 0, none⟩) (Kd.R_types HOBu.out BKAc.out (by decide)) (fun _ hk => hk.2) (.int .i64 tAy)) (fun _ hk => hk.2) (.int .i64 tBh)) (fun _ hk => hk.2) (.int .i64 tBi)) (fun _ hk => hk.2) (.int .i64 tBk)) (fun _ hk => hk.2) (.int .i64 tBm)) (fun _ hk => hk.2) (.slice Ao104 tBn.length co104)) (fun _ h_ => h_.1))) hb); have n6_ := Aside0.mk (blk_below (g := gbAe) (o := .cells #[.int .i64 a0_0, .int .i64 a0_1, .int .i64 a0_2, .int .i64 a0_3, .int .i64 a0_4, .slice A0_5 l0_5.length c0_5] 24 (0, 0)) (bF_ BKAe.out NBAe_Ac.out) hb); have n7_ := Aside0.mk (blk_below (g := gbAf) (o := .cells #[.int .i64 a1_0, .int .i64 a1_1, .int .i64 a1_2, .int .i64 a1_3, .int .i64 a1_4, .slice A1_5 l1_5.length c1_5] 29 (0, 0)) (bF_ BKAf.out NBAf_Ac.out) hb); have n8_ := Aside0.mk (blk_below (g := gbAb) (o := .cells #[.int .i64 tAi, .int .i64 tAn, .int .i64 tAp, .int .i64 tAr, .int .i64 tAt, .slice Ao30 tAk.length co30] 24 (0, 0)) (bF_ BKAb.out NBAb_Ac.out) hb); have n9_ := Aside0.mk (blk_below (g := gbAd) (o := .cells #[.int .i64 tAj, .int .i64 x26123001_18, .int .i64 tAx, .int .i64 tBb, .int .i64 tBe, .slice Ao38 tAm.length co38] 29 (0, 0)) (bF_ BKAd.out NBAd_Ac.out) hb); have n10_ := Aside0.mk (blk_below (g := gbAa) (o := .cells #[.int .i64 tAq, .int .i64 tBa, .int .i64 tBc, .int .i64 tBd, .int .i64 tBf, .slice Ao92 tAw.length co92] 29 (0, 0)) (bF_ BKAa.out NBAa_Ac.out) hb); have n11_ := Aside0.mk (blk_below (g := gbAc) (o := .cells #[.int .i64 tAy, .int .i64 tBh, .int .i64 tBi, .int .i64 tBk, .int .i64 tBm, .slice Ao104 tBn.length co104] 29 (0, 0)) (by (with_reducible repeat (first | refine blk_drewN ?_ _ | refine blk_drew ?_ | refine blk_alloc ?_ _)); refine blk_put (cs := #[.int .i64 tAy, .int .i64 tBh, .int .i64 tBi, .int .i64 tBk, .int .i64 tBm, .slice none 0 0]) ?_ 5 _ rfl; refine blk_put (cs := #[.int .i64 tAy, .int .i64 tBh, .int .i64 tBi, .int .i64 tBk, .int .i64 0, .slice none 0 0]) ?_ 4 _ rfl; refine blk_put (cs := #[.int .i64 tAy, .int .i64 tBh, .int .i64 tBi, .int .i64 0, .int .i64 0, .slice none 0 0]) ?_ 3 _ rfl; refine blk_put (cs := #[.int .i64 tAy, .int .i64 tBh, .int .i64 0, .int .i64 0, .int .i64 0, .slice none 0 0]) ?_ 2 _ rfl; refine blk_put (cs := #[.int .i64 tAy, .int .i64 0, .int .i64 0, .int .i64 0, .int .i64 0, .slice none 0 0]) ?_ 1 _ rfl; refine blk_put (cs := #[.int .i64 0, .int .i64 0, .int .i64 0, .int .i64 0, .int .i64 0, .slice none 0 0]) ?_ 0 _ rfl; (with_reducible repeat (first | refine blk_drewN ?_ _ | refine blk_drew ?_ | refine blk_alloc ?_ _)); exact BKAc.out) hb); have n12_ := bs_ HB hb; clear HO_21; clear HO_Ag005; clear HO_Ah005; clear HOAv; clear HOAz; clear HOBu; clear BKAe; clear BKAf; clear BKAb; clear BKAd; clear BKAa; clear BKAc; clear HB; have HO_21 := n0_; have HO_Ag005 := n1_; have HO_Ah005 := n2_; have HOAv := n3_; have HOAz := n4_; have HOBu := n5_; have BKAe := n6_; have BKAf := n7_; have BKAb := n8_; have BKAd := n9_; have BKAa := n10_; have BKAc := n11_; have HB := n12_; clear n0_ n1_ n2_ n3_ n4_ n5_ n6_ n7_ n8_ n9_ n10_ n11_ n12_; (try clear hb); (try clear hb2); (try clear hk); (try clear hi)))
       go_roundg k3
       case measure => have := HJ18.out; have := HK2.out; have := HK3.out; omega
       case rel => exact ⟨(wrap64 (x23_3 + 1)), (by first | rfl | (simp; done) | (simp [*]; done)), H', ⟨by have := HJ18.out; have := HK2.out; have := HK3.out; omega⟩, ⟨by (with_reducible repeat (first | apply Kd.R_alloc | apply Kd.R_drewN | apply Kd.R_drew)); exact HO_21.out⟩, ⟨by (with_reducible repeat (first | apply Kd.R_alloc | apply Kd.R_drewN | apply Kd.R_drew)); exact Kd.R_mono HO_Ag005.out (fun _ hk => trivial)⟩, ⟨by (with_reducible repeat (first | apply Kd.R_alloc | apply Kd.R_drewN | apply Kd.R_drew)); exact Kd.R_mono HO_Ah005.out (fun _ hk => trivial)⟩, ⟨pB_ BKAe.out⟩, ⟨pB_ BKAf.out⟩, ⟨pB_ BKAb.out⟩, ⟨pB_ BKAd.out⟩, ⟨pH_ HB.out⟩⟩
def plaitinglaw10_ArbRight.Pure : Prop := ∀ (a0_0 : Int) (a0_1 : Int) (a0_2 : Int) (a0_3 : Int) (a0_4 : Int) (l0_5 : List Int) (a1_0 : Int) (a1_1 : Int) (a1_2 : Int) (a1_3 : Int) (a1_4 : Int) (l1_5 : List (S26)) (l2 : List Int) (a3 : Int) (a4 : Int) (a5 : Int) (l6 : List Int) (a7 : ByteArray), ((Lit.int .i64 a0_0).wf = true) → ((Lit.int .i64 a0_1).wf = true) → ((Lit.int .i64 a0_2).wf = true) → ((Lit.int .i64 a0_3).wf = true) → ((Lit.int .i64 a0_4).wf = true) → (l0_5.length ≤ maxLen ∧ ∀ y_ ∈ l0_5, (Lit.int .i64 y_).wf = true) → ((Lit.int .i64 a1_0).wf = true) → ((Lit.int .i64 a1_1).wf = true) → ((Lit.int .i64 a1_2).wf = true) → ((Lit.int .i64 a1_3).wf = true) → ((Lit.int .i64 a1_4).wf = true) → (l1_5.length ≤ maxLen ∧ ∀ y_ ∈ l1_5, ok26 y_) → (l2.length ≤ maxLen) → (l2.length * 8 ≤ 140737488351232) → (∀ y_ ∈ l2, (Lit.int .i64 y_).wf = true) → ((Lit.int .i64 a3).wf = true) → ((Lit.int .i64 a4).wf = true) → ((Lit.int .i64 a5).wf = true) → (l6.length ≤ maxLen) → (l6.length * 8 ≤ 140737488351232) → (∀ y_ ∈ l6, (Lit.int .i64 y_).wf = true) → (a7.size ≤ 140737488351232) → ∃ k, plaitinglaw10_ArbRight.f k a0_0 a0_1 a0_2 a0_3 a0_4 l0_5 a1_0 a1_1 a1_2 a1_3 a1_4 l1_5 l2 a3 a4 a5 l6 a7 = some true
theorem plaitinglaw10_ArbRight.walk (P : plaitinglaw10_ArbRight.Pure) (a0_0 : Int) (a0_1 : Int) (a0_2 : Int) (a0_3 : Int) (a0_4 : Int) (A0_5 : Option Addr) (c0_5 : Nat) (l0_5 : List Int) (a1_0 : Int) (a1_1 : Int) (a1_2 : Int) (a1_3 : Int) (a1_4 : Int) (A1_5 : Option Addr) (c1_5 : Nat) (l1_5 : List (S26)) (A2 : Option Addr) (c2 : Nat) (l2 : List Int) (a3 : Int) (a4 : Int) (a5 : Int) (A6 : Option Addr) (c6 : Nat) (l6 : List Int) (a7 : ByteArray) (w : World) (q0 : (Lit.int .i64 a0_0).wf = true) (q1 : (Lit.int .i64 a0_1).wf = true) (q2 : (Lit.int .i64 a0_2).wf = true) (q3 : (Lit.int .i64 a0_3).wf = true) (q4 : (Lit.int .i64 a0_4).wf = true) (q5 : l0_5.length ≤ maxLen ∧ ∀ y_ ∈ l0_5, (Lit.int .i64 y_).wf = true) (q6 : (Lit.int .i64 a1_0).wf = true) (q7 : (Lit.int .i64 a1_1).wf = true) (q8 : (Lit.int .i64 a1_2).wf = true) (q9 : (Lit.int .i64 a1_3).wf = true) (q10 : (Lit.int .i64 a1_4).wf = true) (q11 : l1_5.length ≤ maxLen ∧ ∀ y_ ∈ l1_5, ok26 y_) (q12 : l2.length ≤ maxLen) (q13 : l2.length * 8 ≤ 140737488351232) (q14 : ∀ y_ ∈ l2, (Lit.int .i64 y_).wf = true) (q15 : (Lit.int .i64 a3).wf = true) (q16 : (Lit.int .i64 a4).wf = true) (q17 : (Lit.int .i64 a5).wf = true) (q18 : l6.length ≤ maxLen) (q19 : l6.length * 8 ≤ 140737488351232) (q20 : ∀ y_ ∈ l6, (Lit.int .i64 y_).wf = true) (q21 : a7.size ≤ 140737488351232) (hr0_5 : Kd.C (Kd.int .i64) w A0_5 l0_5.length l0_5) (hc0_5 : l0_5.length ≤ c0_5) (hr1_5 : Kd.C k26 w A1_5 l1_5.length l1_5) (hc1_5 : l1_5.length ≤ c1_5) (hr2 : Kd.C (Kd.int .i64) w A2 l2.length l2) (hc2 : l2.length ≤ c2) (hr6 : Kd.C (Kd.int .i64) w A6 l6.length l6) (hc6 : l6.length ≤ c6) :
  Calls Try.prog 13 #[.agg #[.int .i64 a0_0, .int .i64 a0_1, .int .i64 a0_2, .int .i64 a0_3, .int .i64 a0_4, .slice A0_5 l0_5.length c0_5], .agg #[.int .i64 a1_0, .int .i64 a1_1, .int .i64 a1_2, .int .i64 a1_3, .int .i64 a1_4, .slice A1_5 l1_5.length c1_5], .slice A2 l2.length c2, .int .i64 a3, .int .i64 a4, .int .i64 a5, .slice A6 l6.length c6, .string a7] w fun e w' => e = .returned (.bool true) ∧ Below w.heap.size w w' := by
 obtain ⟨k, h⟩ := P a0_0 a0_1 a0_2 a0_3 a0_4 l0_5 a1_0 a1_1 a1_2 a1_3 a1_4 l1_5 l2 a3 a4 a5 l6 a7 q0 q1 q2 q3 q4 q5 q6 q7 q8 q9 q10 q11 q12 q13 q14 q15 q16 q17 q18 q19 q20 q21
 refine (plaitinglaw10_ArbRight.calls k a0_0 a0_1 a0_2 a0_3 a0_4 A0_5 c0_5 l0_5 a1_0 a1_1 a1_2 a1_3 a1_4 A1_5 c1_5 l1_5 A2 c2 l2 a3 a4 a5 A6 c6 l6 a7 true w hr0_5 hc0_5 hr1_5 hc1_5 hr2 hc2 hr6 hc6 rfl h).mono ?_
 rintro e w' ⟨rfl, hd⟩
 exact ⟨rfl, hd⟩
end Go.Proofs.Ytcpohmfkmgcjkaa.P
