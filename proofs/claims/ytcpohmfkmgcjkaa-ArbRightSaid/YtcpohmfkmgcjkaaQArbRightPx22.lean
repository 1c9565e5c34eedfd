/- Printed by a program of this session (myprint) out of the translation: the functions as plain Lean functions, and that the calls compute them. What counts is Lean's check. -/
import Derived.Test.YtcpohmfkmgcjkaaQArbRightPx13
namespace Go.Proofs.Ytcpohmfkmgcjkaa.P
open Go.RowKit Go.Proofs.YtcpohmfkmgcjkaaW.PrintWords Go.Proofs.YtcpohmfkmgcjkaaW.PrintLast Go.Proofs.YtcpohmfkmgcjkaaW.PrintMore
attribute [local go_sem] max2_int min2_int max_two min_two max_three min_three max_four min_four
set_option linter.unusedVariables false
set_option linter.unusedSimpArgs false
attribute [-simp] ByteArray.size_extract ByteArray.size_append ByteArray.extract_append_extract
attribute [-go_sem] ByteArray.size_append'
def plaitingref5_Read.l0 : Nat → ByteArray → Int → Int → Int → Int → Int → Int → List Int → Int → Int → Int → Int → Int → List (S26) → Option (Int × Int × Int × Int × Int × (List (S26)) × Int)
 | 0, _, _, _, _, _, _, _, _, _, _, _, _, _, _ => none
 | k + 1, x6, x9, xAb000, xAb001, xAb002, xAb003, xAb004, xAb005, xAe000, xAe001, xAe002, xAe003, xAe004, xAe005 => if x9 < (x6.size : Int) then (if 0 ≤ x9 then (if x9 ≤ (wrap64 (x9 + 10)) then (if (wrap64 (x9 + 10)) ≤ (x6.size : Int) then ((plaitingref5_read.f k (x6.extract (x9 : Int).toNat ((wrap64 (x9 + 10)) : Int).toNat)).bind fun btAp => (if xAe005.length < 8796093022208 then (plaitingref5_Read.l0 k x6 (wrap64 (x9 + 10)) xAb000 xAb001 xAb002 xAb003 xAb004 xAb005 xAe000 xAe001 xAe002 xAe003 xAe004 (xAe005 ++ [(⟨btAp.1, btAp.2⟩ : S26)])) else (none))) else (none)) else (none)) else (none)) else ((plaitingref5_Check.f k xAb000 xAb001 xAb002 xAb003 xAb004 xAb005 xAe000 xAe001 xAe002 xAe003 xAe004 xAe005).bind fun tAm => (if tAm = 0 then (some (xAe000, xAe001, xAe002, xAe003, xAe004, xAe005, 0)) else (some (0, 0, 0, 0, 0, ([] : List (S26)), tAm))))
def plaitingref5_Read.f (k : Nat) (a0_0 : Int) (a0_1 : Int) (a0_2 : Int) (a0_3 : Int) (a0_4 : Int) (l0_5 : List Int) (a1 : ByteArray) : Option (Int × Int × Int × Int × Int × (List (S26)) × Int) := (plaitingref2_Open.f k a1).bind fun btAd => (if btAd.2 = 0 then (if (btAd.1.size : Int) < 34 then (some (0, 0, 0, 0, 0, ([] : List (S26)), 3)) else (if 0 ≤ 2 then (if 2 ≤ (btAd.1.size : Int) then ((plaitingref5_number.f k (btAd.1.extract 0 2)).bind fun tAf => (if 2 ≤ 18 then (if 18 ≤ (btAd.1.size : Int) then ((plaitingref5_number.f k (btAd.1.extract 2 18)).bind fun tAg => (if 18 ≤ 24 then (if 24 ≤ (btAd.1.size : Int) then ((plaitingref5_number.f k (btAd.1.extract 18 24)).bind fun tAh => (if 24 ≤ 34 then (if 34 ≤ (btAd.1.size : Int) then ((plaitingref5_read.f k (btAd.1.extract 24 34)).bind fun btAi => ((plaitingref5_echoes.f a0_0 a0_1 a0_2 a0_3 a0_4 l0_5 tAf tAh).bind fun tAe => (if (wrap64 ((btAd.1.size : Int) - 34)) = (wrap64 (10 * tAe)) then (plaitingref5_Read.l0 k btAd.1 34 a0_0 a0_1 a0_2 a0_3 a0_4 l0_5 tAf tAg tAh btAi.1 btAi.2 ([] : List (S26))) else (some (0, 0, 0, 0, 0, ([] : List (S26)), 2))))) else (none)) else (none))) else (none)) else (none))) else (none)) else (none))) else (none)) else (none))) else (some (0, 0, 0, 0, 0, ([] : List (S26)), btAd.2)))
def plaitingref5_Read.T6 : Bool × List (List Nat × List Nat) := (true, [([], []), ([0], [0]), ([1], [1]), ([], []), ([3], [3]), ([4, 2], [4]), ([], []), ([6], [6]), ([7, 5], [7]), ([], []), ([9], [9]), ([10, 8], [10]), ([2, 5, 8, 11], [2, 5, 8, 11]), ([], []), ([13, 12, 11, 0, 1, 2, 3, 4, 5, 6, 7, 8, 9, 10, 11, 12, 13], [12, 13])])
def plaitingref5_Read.B6 : List Nat := [0, 1, 3, 0, 8, 31, 0, 64, 255, 0, 512, 2047, 4095, 0, 16383]
theorem plaitingref5_Read.tab6 : rtab .any (opsOf Try.f36 6) = plaitingref5_Read.T6 := by kernel_rfl
theorem plaitingref5_Read.bits6 : waitsOk plaitingref5_Read.T6.2 plaitingref5_Read.B6 = true := by kernel_rfl
def plaitingref5_Read.T12 : Bool × List (List Nat × List Nat) := (true, [([], []), ([0], [0]), ([], []), ([], []), ([], []), ([4], [4]), ([2, 3, 5], [2, 3, 5]), ([6], [6]), ([7], [7]), ([1, 8, 7], [1, 8]), ([0, 1, 2, 3, 4, 5, 6, 7, 8, 9], []), ([10, 9, 9, 0, 1, 2, 3, 4, 5, 6, 7, 8, 9], [9, 10])])
def plaitingref5_Read.B12 : List Nat := [0, 1, 0, 0, 0, 16, 60, 124, 252, 511, 1023, 2047]
theorem plaitingref5_Read.tab12 : rtab .any (opsOf Try.f36 12) = plaitingref5_Read.T12 := by kernel_rfl
theorem plaitingref5_Read.bits12 : waitsOk plaitingref5_Read.T12.2 plaitingref5_Read.B12 = true := by kernel_rfl
set_option maxHeartbeats 8000000 in
set_option maxRecDepth 100000 in
theorem plaitingref5_Read.calls (k : Nat) (a0_0 : Int) (a0_1 : Int) (a0_2 : Int) (a0_3 : Int) (a0_4 : Int) (A0_5 : Option Addr) (c0_5 : Nat) (l0_5 : List Int) (a1 : ByteArray) (r1 : Int) (r2 : Int) (r3 : Int) (r4 : Int) (r5 : Int) (r6 : List (S26)) (r7 : Int) (w : World) (hr0_5 : Kd.C (Kd.int .i64) w A0_5 l0_5.length l0_5) (hc0_5 : l0_5.length ≤ c0_5) (h : plaitingref5_Read.f k a0_0 a0_1 a0_2 a0_3 a0_4 l0_5 a1 = some (r1, r2, r3, r4, r5, r6, r7)) :
  Calls Try.prog 36 #[.agg #[.int .i64 a0_0, .int .i64 a0_1, .int .i64 a0_2, .int .i64 a0_3, .int .i64 a0_4, .slice A0_5 l0_5.length c0_5], .string a1] w fun e w' => ∃ v5_ : Value, e = .returned (.tuple #[.agg #[.int .i64 r1, .int .i64 r2, .int .i64 r3, .int .i64 r4, .int .i64 r5, v5_], .int .i64 r7]) ∧ Kd.R k26 26 w' w.heap.size (fun _ => True) v5_ r6 ∧ Below w.heap.size w w' := by
 have hu24 := Try.underlying24
 have hu29 := Try.underlying29
 have HR0_5 := Aside0.mk hr0_5
 have HC0_5 := Aside0.mk hc0_5
 clear hr0_5 hc0_5
 have HB := Aside0.mk (Below.refl w.heap.size w)
 have H : ((plaitingref2_Open.f k a1).bind fun btAd => (if btAd.2 = 0 then (if (btAd.1.size : Int) < 34 then (some (0, 0, 0, 0, 0, ([] : List (S26)), 3)) else (if 0 ≤ 2 then (if 2 ≤ (btAd.1.size : Int) then ((plaitingref5_number.f k (btAd.1.extract 0 2)).bind fun tAf => (if 2 ≤ 18 then (if 18 ≤ (btAd.1.size : Int) then ((plaitingref5_number.f k (btAd.1.extract 2 18)).bind fun tAg => (if 18 ≤ 24 then (if 24 ≤ (btAd.1.size : Int) then ((plaitingref5_number.f k (btAd.1.extract 18 24)).bind fun tAh => (if 24 ≤ 34 then (if 34 ≤ (btAd.1.size : Int) then ((plaitingref5_read.f k (btAd.1.extract 24 34)).bind fun btAi => ((plaitingref5_echoes.f a0_0 a0_1 a0_2 a0_3 a0_4 l0_5 tAf tAh).bind fun tAe => (if (wrap64 ((btAd.1.size : Int) - 34)) = (wrap64 (10 * tAe)) then (plaitingref5_Read.l0 k btAd.1 34 a0_0 a0_1 a0_2 a0_3 a0_4 l0_5 tAf tAg tAh btAi.1 btAi.2 ([] : List (S26))) else (some (0, 0, 0, 0, 0, ([] : List (S26)), 2))))) else (none)) else (none))) else (none)) else (none))) else (none)) else (none))) else (none)) else (none))) else (some (0, 0, 0, 0, 0, ([] : List (S26)), btAd.2)))) = some (r1, r2, r3, r4, r5, r6, r7) := h
 clear h
 replace H := Option.bind_eq_some_iff.mp H
 obtain ⟨⟨tAd, tAn⟩, A30, H⟩ := H
 try dsimp only at H
 have A3 := Aside0.mk A30
 clear A30
 by_cases c4 : tAn = 0
 rotate_left
 ·
  rw [if_neg c4] at H
  have c4b0 : (tAn == 0) = false := beq_eq_false_iff_ne.mpr c4
  have c4b1 : (tAn != 0) = true := bne_iff_ne.mpr c4
  simp only [Option.some.injEq, Prod.mk.injEq] at H
  obtain ⟨rfl, rfl, rfl, rfl, rfl, rfl, rfl⟩ := H
  go_enter Try.func36, Try.ntmps36
  go_wp2_with (first | ((with_reducible refine gate_dst (N := 2) rfl ?_); refine be_ 2 #[.int .i64 a0_0, .int .i64 a0_1, .int .i64 a0_2, .int .i64 a0_3, .int .i64 a0_4, .slice A0_5 l0_5.length c0_5] 24 ?_; intro gbAc hg w91 hbox hb; have BKAc := Aside0.mk (hbox); have GWAc := Aside0.mk ((by rw [hg]; exact (below_size (pH_ HB.out)) : w.heap.size ≤ gbAc)); have GEAc := Aside0.mk ((by rw [hg]; exact (below_size (pH_ HB.out)) : w.heap.size ≤ gbAc)); replace HB := bs_ HB hb; clear hb hbox hg) | ((with_reducible refine gate_dst (N := 4) rfl ?_); refine be_ 4 #[.int .i64 0, .int .i64 0, .int .i64 0, .int .i64 0, .int .i64 0, .slice none 0 0] 29 ?_; intro gbAb hg w92 hbox hb; have BKAb := Aside0.mk (hbox); have GWAb := Aside0.mk ((by rw [hg]; exact (below_size (pH_ HB.out)) : w.heap.size ≤ gbAb)); have GEAb := Aside0.mk ((by rw [hg]; exact (below_size (pH_ HB.out)) : w.heap.size ≤ gbAb)); have NBAc_Ab := Aside0.mk (ltB_ hg BKAc.out); have NBAb_Ac := Aside0.mk (ltB_ hg BKAc.out).symm; replace BKAc := bb_ BKAc hb; replace HB := bs_ HB hb; clear hb hbox hg) | ((with_reducible refine gate_callee (f := 70) rfl ?_); refine gL_ 12 Try.func70 #[.string a1] ?_; (with_reducible refine (plaitingref2_Open.calls k a1 tAd tAn _ A3.out).mono ?_); rintro e w' ⟨rfl, ⟨nd, rfl⟩⟩; refine ⟨_, rfl, ?_⟩; (try (rw [drewN_self w92]; generalize hq_ : World.drewN w92 _ = w92; have n0_ : Aside0 (w92.heap[gbAc]? = some (.cells #[.int .i64 a0_0, .int .i64 a0_1, .int .i64 a0_2, .int .i64 a0_3, .int .i64 a0_4, .slice A0_5 l0_5.length c0_5] 24 (0, 0))) := ⟨by rw [← hq_]; exact (pB_ BKAc.out)⟩; have n1_ : Aside0 (w92.heap[gbAb]? = some (.cells #[.int .i64 0, .int .i64 0, .int .i64 0, .int .i64 0, .int .i64 0, .slice none 0 0] 29 (0, 0))) := ⟨by rw [← hq_]; exact (pB_ BKAb.out)⟩; have n2_ : Aside0 (Below w.heap.size w w92) := ⟨by rw [← hq_]; exact (pH_ HB.out)⟩; clear BKAc BKAb HB hq_; have BKAc := n0_; have BKAb := n1_; have HB := n2_; clear n0_ n1_ n2_)); have hnb93 := NBAb_Ac.out; have hnc93 := NBAc_Ab.out; obtain ⟨hcz94_0, hcz94_1, hcz94_2, hcz94_3, hcz94_4, hcz94_5⟩ := c6_ BKAb; obtain ⟨hfz94_0, hfz94_1, hfz94_2, hfz94_3, hfz94_4, hfz94_5⟩ := f6_ BKAb))
  refine bodyPost_ret (results_ct rfl _ _ gbAb 29 #[.int .i64 0, .int .i64 0, .int .i64 0, .int .i64 0, .int .i64 0, .slice none 0 0] (0, 0) _ rfl (by (with_reducible repeat (first | refine blk_drewN ?_ _ | refine blk_drew ?_ | refine blk_alloc ?_ _)); refine blk_put (cs := #[.int .i64 0, .int .i64 0, .int .i64 0, .int .i64 0, .int .i64 0, .slice none 0 0]) ?_ 5 _ rfl; (with_reducible repeat (first | refine blk_drewN ?_ _ | refine blk_drew ?_ | refine blk_alloc ?_ _)); refine blk_put (cs := #[.int .i64 0, .int .i64 0, .int .i64 0, .int .i64 0, .int .i64 0, .slice none 0 0]) ?_ 4 _ rfl; (with_reducible repeat (first | refine blk_drewN ?_ _ | refine blk_drew ?_ | refine blk_alloc ?_ _)); refine blk_put (cs := #[.int .i64 0, .int .i64 0, .int .i64 0, .int .i64 0, .int .i64 0, .slice none 0 0]) ?_ 3 _ rfl; (with_reducible repeat (first | refine blk_drewN ?_ _ | refine blk_drew ?_ | refine blk_alloc ?_ _)); refine blk_put (cs := #[.int .i64 0, .int .i64 0, .int .i64 0, .int .i64 0, .int .i64 0, .slice none 0 0]) ?_ 2 _ rfl; (with_reducible repeat (first | refine blk_drewN ?_ _ | refine blk_drew ?_ | refine blk_alloc ?_ _)); refine blk_put (cs := #[.int .i64 0, .int .i64 0, .int .i64 0, .int .i64 0, .int .i64 0, .slice none 0 0]) ?_ 1 _ rfl; (with_reducible repeat (first | refine blk_drewN ?_ _ | refine blk_drew ?_ | refine blk_alloc ?_ _)); refine blk_put (cs := #[.int .i64 0, .int .i64 0, .int .i64 0, .int .i64 0, .int .i64 0, .slice none 0 0]) ?_ 0 _ rfl; (with_reducible repeat (first | refine blk_drewN ?_ _ | refine blk_drew ?_ | refine blk_alloc ?_ _)); exact BKAb.out) Try.underlying29 rfl (by kernel_rfl)) rfl ?_
  exact ⟨_, by first | rfl | (simp [errW_none, errW_some] <;> rfl) | (simp [*, errW_none, errW_some] <;> rfl), by first | exact Kd.R_nil _ _ _ _ _ | exact Kd.N_nil _ _ _ _ _ | exact Kd.V_nil _ _ _ _ _ | exact Kd.Q_nil _ _ _ _ _ | exact Kd.S_nil _ _ _ _ _, pH_ HB.out⟩
 rw [if_pos c4] at H
 have c4b0 : (tAn == 0) = true := beq_iff_eq.mpr c4
 have c4b1 : (tAn != 0) = false := bne_eq_false_iff_eq.mpr c4
 clear c4
 by_cases c5 : (tAd.size : Int) < 34
 ·
  rw [if_pos c5] at H
  have c5b0 : decide ((tAd.size : Int) < 34) = true := decide_eq_true c5
  have c5b1 : decide (tAd.size < 34) = true := decide_eq_true (by omega)
  clear c5
  simp only [Option.some.injEq, Prod.mk.injEq] at H
  obtain ⟨rfl, rfl, rfl, rfl, rfl, rfl, rfl⟩ := H
  go_enter Try.func36, Try.ntmps36
  go_wp2_with (first | ((with_reducible refine gate_dst (N := 2) rfl ?_); refine be_ 2 #[.int .i64 a0_0, .int .i64 a0_1, .int .i64 a0_2, .int .i64 a0_3, .int .i64 a0_4, .slice A0_5 l0_5.length c0_5] 24 ?_; intro gbAc hg w6 hbox hb; have BKAc := Aside0.mk (hbox); have GWAc := Aside0.mk ((by rw [hg]; exact (below_size (pH_ HB.out)) : w.heap.size ≤ gbAc)); have GEAc := Aside0.mk ((by rw [hg]; exact (below_size (pH_ HB.out)) : w.heap.size ≤ gbAc)); replace HB := bs_ HB hb; clear hb hbox hg) | ((with_reducible refine gate_dst (N := 4) rfl ?_); refine be_ 4 #[.int .i64 0, .int .i64 0, .int .i64 0, .int .i64 0, .int .i64 0, .slice none 0 0] 29 ?_; intro gbAb hg w7 hbox hb; have BKAb := Aside0.mk (hbox); have GWAb := Aside0.mk ((by rw [hg]; exact (below_size (pH_ HB.out)) : w.heap.size ≤ gbAb)); have GEAb := Aside0.mk ((by rw [hg]; exact (below_size (pH_ HB.out)) : w.heap.size ≤ gbAb)); have NBAc_Ab := Aside0.mk (ltB_ hg BKAc.out); have NBAb_Ac := Aside0.mk (ltB_ hg BKAc.out).symm; replace BKAc := bb_ BKAc hb; replace HB := bs_ HB hb; clear hb hbox hg) | ((with_reducible refine gate_callee (f := 70) rfl ?_); refine gL_ 12 Try.func70 #[.string a1] ?_; (with_reducible refine (plaitingref2_Open.calls k a1 tAd tAn _ A3.out).mono ?_); rintro e w' ⟨rfl, ⟨nd, rfl⟩⟩; refine ⟨_, rfl, ?_⟩; (try (rw [drewN_self w7]; generalize hq_ : World.drewN w7 _ = w7; have n0_ : Aside0 (w7.heap[gbAc]? = some (.cells #[.int .i64 a0_0, .int .i64 a0_1, .int .i64 a0_2, .int .i64 a0_3, .int .i64 a0_4, .slice A0_5 l0_5.length c0_5] 24 (0, 0))) := ⟨by rw [← hq_]; exact (pB_ BKAc.out)⟩; have n1_ : Aside0 (w7.heap[gbAb]? = some (.cells #[.int .i64 0, .int .i64 0, .int .i64 0, .int .i64 0, .int .i64 0, .slice none 0 0] 29 (0, 0))) := ⟨by rw [← hq_]; exact (pB_ BKAb.out)⟩; have n2_ : Aside0 (Below w.heap.size w w7) := ⟨by rw [← hq_]; exact (pH_ HB.out)⟩; clear BKAc BKAb HB hq_; have BKAc := n0_; have BKAb := n1_; have HB := n2_; clear n0_ n1_ n2_)); have hnb8 := NBAb_Ac.out; have hnc8 := NBAc_Ab.out; obtain ⟨hcz9_0, hcz9_1, hcz9_2, hcz9_3, hcz9_4, hcz9_5⟩ := c6_ BKAb; obtain ⟨hfz9_0, hfz9_1, hfz9_2, hfz9_3, hfz9_4, hfz9_5⟩ := f6_ BKAb))
  refine bodyPost_ret (results_ct rfl _ _ gbAb 29 #[.int .i64 0, .int .i64 0, .int .i64 0, .int .i64 0, .int .i64 0, .slice none 0 0] (0, 0) _ rfl (by (with_reducible repeat (first | refine blk_drewN ?_ _ | refine blk_drew ?_ | refine blk_alloc ?_ _)); refine blk_put (cs := #[.int .i64 0, .int .i64 0, .int .i64 0, .int .i64 0, .int .i64 0, .slice none 0 0]) ?_ 5 _ rfl; (with_reducible repeat (first | refine blk_drewN ?_ _ | refine blk_drew ?_ | refine blk_alloc ?_ _)); refine blk_put (cs := #[.int .i64 0, .int .i64 0, .int .i64 0, .int .i64 0, .int .i64 0, .slice none 0 0]) ?_ 4 _ rfl; (with_reducible repeat (first | refine blk_drewN ?_ _ | refine blk_drew ?_ | refine blk_alloc ?_ _)); refine blk_put (cs := #[.int .i64 0, .int .i64 0, .int .i64 0, .int .i64 0, .int .i64 0, .slice none 0 0]) ?_ 3 _ rfl; (with_reducible repeat (first | refine blk_drewN ?_ _ | refine blk_drew ?_ | refine blk_alloc ?_ _)); refine blk_put (cs := #[.int .i64 0, .int .i64 0, .int .i64 0, .int .i64 0, .int .i64 0, .slice none 0 0]) ?_ 2 _ rfl; (with_reducible repeat (first | refine blk_drewN ?_ _ | refine blk_drew ?_ | refine blk_alloc ?_ _)); refine blk_put (cs := #[.int .i64 0, .int .i64 0, .int .i64 0, .int .i64 0, .int .i64 0, .slice none 0 0]) ?_ 1 _ rfl; (with_reducible repeat (first | refine blk_drewN ?_ _ | refine blk_drew ?_ | refine blk_alloc ?_ _)); refine blk_put (cs := #[.int .i64 0, .int .i64 0, .int .i64 0, .int .i64 0, .int .i64 0, .slice none 0 0]) ?_ 0 _ rfl; (with_reducible repeat (first | refine blk_drewN ?_ _ | refine blk_drew ?_ | refine blk_alloc ?_ _)); exact BKAb.out) Try.underlying29 rfl (by kernel_rfl)) rfl ?_
  exact ⟨_, by first | rfl | (simp [errW_none, errW_some] <;> rfl) | (simp [*, errW_none, errW_some] <;> rfl), by first | exact Kd.R_nil _ _ _ _ _ | exact Kd.N_nil _ _ _ _ _ | exact Kd.V_nil _ _ _ _ _ | exact Kd.Q_nil _ _ _ _ _ | exact Kd.S_nil _ _ _ _ _, pH_ HB.out⟩
 rw [if_neg c5] at H
 have c5b0 : decide ((tAd.size : Int) < 34) = false := decide_eq_false c5
 have c5b1 : decide (tAd.size < 34) = false := decide_eq_false (by omega)
 clear c5
 by_cases c10 : 0 ≤ 2
 rotate_left
 ·
  rw [if_neg c10] at H
  exact absurd H (by simp)
 rw [if_pos c10] at H
 have c10b0 := eq_true c10
 have c10b1 : decide (0 ≤ 2) = true := decide_eq_true c10
 clear c10
 by_cases c11 : 2 ≤ (tAd.size : Int)
 rotate_left
 ·
  rw [if_neg c11] at H
  exact absurd H (by simp)
 rw [if_pos c11] at H
 have c11b0 := eq_true c11
 have c11b1 : decide (2 ≤ (tAd.size : Int)) = true := decide_eq_true c11
 clear c11
 replace H := Option.bind_eq_some_iff.mp H
 obtain ⟨tAf, A120, H⟩ := H
 try dsimp only at H
 have A12 := Aside0.mk A120
 clear A120
 by_cases c13 : 2 ≤ 18
 rotate_left
 ·
  rw [if_neg c13] at H
  exact absurd H (by simp)
 rw [if_pos c13] at H
 have c13b0 := eq_true c13
 have c13b1 : decide (2 ≤ 18) = true := decide_eq_true c13
 clear c13
 by_cases c14 : 18 ≤ (tAd.size : Int)
 rotate_left
 ·
  rw [if_neg c14] at H
  exact absurd H (by simp)
 rw [if_pos c14] at H
 have c14b0 := eq_true c14
 have c14b1 : decide (18 ≤ (tAd.size : Int)) = true := decide_eq_true c14
 clear c14
 replace H := Option.bind_eq_some_iff.mp H
 obtain ⟨tAg, A150, H⟩ := H
 try dsimp only at H
 have A15 := Aside0.mk A150
 clear A150
 by_cases c16 : 18 ≤ 24
 rotate_left
 ·
  rw [if_neg c16] at H
  exact absurd H (by simp)
 rw [if_pos c16] at H
 have c16b0 := eq_true c16
 have c16b1 : decide (18 ≤ 24) = true := decide_eq_true c16
 clear c16
 by_cases c17 : 24 ≤ (tAd.size : Int)
 rotate_left
 ·
  rw [if_neg c17] at H
  exact absurd H (by simp)
 rw [if_pos c17] at H
 have c17b0 := eq_true c17
 have c17b1 : decide (24 ≤ (tAd.size : Int)) = true := decide_eq_true c17
 clear c17
 replace H := Option.bind_eq_some_iff.mp H
 obtain ⟨tAh, A180, H⟩ := H
 try dsimp only at H
 have A18 := Aside0.mk A180
 clear A180
 by_cases c19 : 24 ≤ 34
 rotate_left
 ·
  rw [if_neg c19] at H
  exact absurd H (by simp)
 rw [if_pos c19] at H
 have c19b0 := eq_true c19
 have c19b1 : decide (24 ≤ 34) = true := decide_eq_true c19
 clear c19
 by_cases c20 : 34 ≤ (tAd.size : Int)
 rotate_left
 ·
  rw [if_neg c20] at H
  exact absurd H (by simp)
 rw [if_pos c20] at H
 have c20b0 := eq_true c20
 have c20b1 : decide (34 ≤ (tAd.size : Int)) = true := decide_eq_true c20
 clear c20
 replace H := Option.bind_eq_some_iff.mp H
 obtain ⟨⟨tAi, tAj⟩, A210, H⟩ := H
 try dsimp only at H
 have A21 := Aside0.mk A210
 clear A210
 replace H := Option.bind_eq_some_iff.mp H
 obtain ⟨tAe, A220, H⟩ := H
 try dsimp only at H
 have A22 := Aside0.mk A220
 clear A220
 by_cases c23 : (wrap64 ((tAd.size : Int) - 34)) = (wrap64 (10 * tAe))
 ·
  rw [if_pos c23] at H
  have c23b0 : ((wrap64 ((tAd.size : Int) - 34)) == (wrap64 (10 * tAe))) = true := beq_iff_eq.mpr c23
  have c23b1 : ((wrap64 ((tAd.size : Int) - 34)) != (wrap64 (10 * tAe))) = false := bne_eq_false_iff_eq.mpr c23
  clear c23
  have H' := Aside0.mk H
  clear H
  go_enter Try.func36, Try.ntmps36
  try go_wp2_with (first | ((with_reducible refine gate_dst (N := 2) rfl ?_); refine be_ 2 #[.int .i64 a0_0, .int .i64 a0_1, .int .i64 a0_2, .int .i64 a0_3, .int .i64 a0_4, .slice A0_5 l0_5.length c0_5] 24 ?_; intro gbAc hg w24 hbox hb; have BKAc := Aside0.mk (hbox); have GWAc := Aside0.mk ((by rw [hg]; exact (below_size (pH_ HB.out)) : w.heap.size ≤ gbAc)); have GEAc := Aside0.mk ((by rw [hg]; exact (below_size (pH_ HB.out)) : w.heap.size ≤ gbAc)); replace HB := bs_ HB hb; clear hb hbox hg) | ((with_reducible refine gate_dst (N := 4) rfl ?_); refine be_ 4 #[.int .i64 0, .int .i64 0, .int .i64 0, .int .i64 0, .int .i64 0, .slice none 0 0] 29 ?_; intro gbAb hg w25 hbox hb; have BKAb := Aside0.mk (hbox); have GWAb := Aside0.mk ((by rw [hg]; exact (below_size (pH_ HB.out)) : w.heap.size ≤ gbAb)); have GEAb := Aside0.mk ((by rw [hg]; exact (below_size (pH_ HB.out)) : w.heap.size ≤ gbAb)); have NBAc_Ab := Aside0.mk (ltB_ hg BKAc.out); have NBAb_Ac := Aside0.mk (ltB_ hg BKAc.out).symm; replace BKAc := bb_ BKAc hb; replace HB := bs_ HB hb; clear hb hbox hg) | ((with_reducible refine gate_callee (f := 70) rfl ?_); refine gL_ 12 Try.func70 #[.string a1] ?_; (with_reducible refine (plaitingref2_Open.calls k a1 tAd tAn _ A3.out).mono ?_); rintro e w' ⟨rfl, ⟨nd, rfl⟩⟩; refine ⟨_, rfl, ?_⟩; (try (rw [drewN_self w25]; generalize hq_ : World.drewN w25 _ = w25; have n0_ : Aside0 (w25.heap[gbAc]? = some (.cells #[.int .i64 a0_0, .int .i64 a0_1, .int .i64 a0_2, .int .i64 a0_3, .int .i64 a0_4, .slice A0_5 l0_5.length c0_5] 24 (0, 0))) := ⟨by rw [← hq_]; exact (pB_ BKAc.out)⟩; have n1_ : Aside0 (w25.heap[gbAb]? = some (.cells #[.int .i64 0, .int .i64 0, .int .i64 0, .int .i64 0, .int .i64 0, .slice none 0 0] 29 (0, 0))) := ⟨by rw [← hq_]; exact (pB_ BKAb.out)⟩; have n2_ : Aside0 (Below w.heap.size w w25) := ⟨by rw [← hq_]; exact (pH_ HB.out)⟩; clear BKAc BKAb HB hq_; have BKAc := n0_; have BKAb := n1_; have HB := n2_; clear n0_ n1_ n2_))))
  replace BKAc := Aside0.mk (blk_drew BKAc.out)
  replace BKAb := Aside0.mk (blk_drew BKAb.out)
  replace HB := Aside0.mk (below_drew1 HB.out)
  refine start_ (n := 15) (S := fun w' => True) (ds := []) #[false, false, false, false, false, false, false, false, false, false, false, false, false, false, false] (by kernel_rfl) rfl rfl trivial (fun hHeld => ?_); refine with_tabW plaitingref5_Read.tab6 plaitingref5_Read.bits6 (fun HT_ HW_ => ?_)
  generalize w25.drew = w26 at BKAc BKAb HB hHeld ⊢
  refine pq_ 0 23 HT_ ?_
  refine pq_ 1 24 HT_ ?_
  refine pq_ 3 26 HT_ ?_
  refine pq_ 4 27 HT_ ?_
  refine pq_ 6 29 HT_ ?_
  refine pq_ 7 30 HT_ ?_
  refine pq_ 9 32 HT_ ?_
  refine pq_ 10 33 HT_ ?_
  refine join_ (σ := Nat) 1 #[true, true, true, true, true, true, true, true, true, true, true, true, true, true, false] (fun s_ => [(25, .int .i64 tAf), (28, .int .i64 tAg), (31, .int .i64 tAh), (34, .agg #[.int .i64 tAi, .int .i64 tAj]), (8, .pointer (some ⟨s_, 0, none⟩)), (35, .agg #[.int .i64 tAf, .int .i64 tAg, .int .i64 tAh, .int .i64 tAi, .int .i64 tAj, .slice none 0 0])]) (fun s_ w' => (w'.heap[gbAc]? = some (.cells #[.int .i64 a0_0, .int .i64 a0_1, .int .i64 a0_2, .int .i64 a0_3, .int .i64 a0_4, .slice A0_5 l0_5.length c0_5] 24 (0, 0))) ∧ (w'.heap[gbAb]? = some (.cells #[.int .i64 0, .int .i64 0, .int .i64 0, .int .i64 0, .int .i64 0, .slice none 0 0] 29 (0, 0))) ∧ (w'.heap[s_]? = some (.cells #[.int .i64 0, .int .i64 0, .int .i64 0, .int .i64 0, .int .i64 0, .slice none 0 0] 29 (0, 0))) ∧ (w.heap.size ≤ s_) ∧ (w.heap.size ≤ s_) ∧ (gbAc ≠ s_) ∧ (s_ ≠ gbAc) ∧ (gbAb ≠ s_) ∧ (s_ ≠ gbAb) ∧ (Below w.heap.size w w')) ?_ ?_
  rotate_left
  ·
   intro hJ2_5_8_11_13
   refine join_ (σ := Unit) 2 #[true, true, true, true, true, true, true, true, true, true, true, true, true, false, false] (fun s_ => [(25, .int .i64 tAf), (28, .int .i64 tAg), (31, .int .i64 tAh), (34, .agg #[.int .i64 tAi, .int .i64 tAj]), (35, .agg #[.int .i64 tAf, .int .i64 tAg, .int .i64 tAh, .int .i64 tAi, .int .i64 tAj, .slice none 0 0])]) (fun s_ w' => (w'.heap[gbAc]? = some (.cells #[.int .i64 a0_0, .int .i64 a0_1, .int .i64 a0_2, .int .i64 a0_3, .int .i64 a0_4, .slice A0_5 l0_5.length c0_5] 24 (0, 0))) ∧ (w'.heap[gbAb]? = some (.cells #[.int .i64 0, .int .i64 0, .int .i64 0, .int .i64 0, .int .i64 0, .slice none 0 0] 29 (0, 0))) ∧ (Below w.heap.size w w')) ?_ ?_
   rotate_left
   ·
    intro hJ2_5_8_11
    refine join_ (σ := Nat) 3 #[true, true, true, true, true, true, true, true, true, true, true, false, false, true, false] (fun s_ => [(25, .int .i64 tAf), (28, .int .i64 tAg), (31, .int .i64 tAh), (8, .pointer (some ⟨s_, 0, none⟩))]) (fun s_ w' => (w'.heap[gbAc]? = some (.cells #[.int .i64 a0_0, .int .i64 a0_1, .int .i64 a0_2, .int .i64 a0_3, .int .i64 a0_4, .slice A0_5 l0_5.length c0_5] 24 (0, 0))) ∧ (w'.heap[gbAb]? = some (.cells #[.int .i64 0, .int .i64 0, .int .i64 0, .int .i64 0, .int .i64 0, .slice none 0 0] 29 (0, 0))) ∧ (w'.heap[s_]? = some (.cells #[.int .i64 0, .int .i64 0, .int .i64 0, .int .i64 0, .int .i64 0, .slice none 0 0] 29 (0, 0))) ∧ (w.heap.size ≤ s_) ∧ (w.heap.size ≤ s_) ∧ (gbAc ≠ s_) ∧ (s_ ≠ gbAc) ∧ (gbAb ≠ s_) ∧ (s_ ≠ gbAb) ∧ (Below w.heap.size w w')) ?_ ?_
    rotate_left
    ·
     intro hJ2_5_8_13
     refine join_ (σ := Unit) 4 #[true, true, true, true, true, true, true, true, true, true, true, false, false, false, false] (fun s_ => [(25, .int .i64 tAf), (28, .int .i64 tAg), (31, .int .i64 tAh)]) (fun s_ w' => (w'.heap[gbAc]? = some (.cells #[.int .i64 a0_0, .int .i64 a0_1, .int .i64 a0_2, .int .i64 a0_3, .int .i64 a0_4, .slice A0_5 l0_5.length c0_5] 24 (0, 0))) ∧ (w'.heap[gbAb]? = some (.cells #[.int .i64 0, .int .i64 0, .int .i64 0, .int .i64 0, .int .i64 0, .slice none 0 0] 29 (0, 0))) ∧ (Below w.heap.size w w')) ?_ ?_
     rotate_left
     ·
      intro hJ2_5_8
      refine join_ (σ := Nat) 4 #[true, true, true, true, true, true, true, true, false, true, true, false, false, true, false] (fun s_ => [(25, .int .i64 tAf), (28, .int .i64 tAg), (8, .pointer (some ⟨s_, 0, none⟩))]) (fun s_ w' => (w'.heap[gbAc]? = some (.cells #[.int .i64 a0_0, .int .i64 a0_1, .int .i64 a0_2, .int .i64 a0_3, .int .i64 a0_4, .slice A0_5 l0_5.length c0_5] 24 (0, 0))) ∧ (w'.heap[gbAb]? = some (.cells #[.int .i64 0, .int .i64 0, .int .i64 0, .int .i64 0, .int .i64 0, .slice none 0 0] 29 (0, 0))) ∧ (w'.heap[s_]? = some (.cells #[.int .i64 0, .int .i64 0, .int .i64 0, .int .i64 0, .int .i64 0, .slice none 0 0] 29 (0, 0))) ∧ (w.heap.size ≤ s_) ∧ (w.heap.size ≤ s_) ∧ (gbAc ≠ s_) ∧ (s_ ≠ gbAc) ∧ (gbAb ≠ s_) ∧ (s_ ≠ gbAb) ∧ (Below w.heap.size w w')) ?_ ?_
      rotate_left
      ·
       intro hJ2_5_13
       refine join_ (σ := Unit) 5 #[true, true, true, true, true, true, true, true, false, true, true, false, false, false, false] (fun s_ => [(25, .int .i64 tAf), (28, .int .i64 tAg)]) (fun s_ w' => (w'.heap[gbAc]? = some (.cells #[.int .i64 a0_0, .int .i64 a0_1, .int .i64 a0_2, .int .i64 a0_3, .int .i64 a0_4, .slice A0_5 l0_5.length c0_5] 24 (0, 0))) ∧ (w'.heap[gbAb]? = some (.cells #[.int .i64 0, .int .i64 0, .int .i64 0, .int .i64 0, .int .i64 0, .slice none 0 0] 29 (0, 0))) ∧ (Below w.heap.size w w')) ?_ ?_
       rotate_left
       ·
        intro hJ2_5
        refine join_ (σ := Nat) 5 #[true, true, true, true, true, false, true, true, false, true, true, false, false, true, false] (fun s_ => [(25, .int .i64 tAf), (8, .pointer (some ⟨s_, 0, none⟩))]) (fun s_ w' => (w'.heap[gbAc]? = some (.cells #[.int .i64 a0_0, .int .i64 a0_1, .int .i64 a0_2, .int .i64 a0_3, .int .i64 a0_4, .slice A0_5 l0_5.length c0_5] 24 (0, 0))) ∧ (w'.heap[gbAb]? = some (.cells #[.int .i64 0, .int .i64 0, .int .i64 0, .int .i64 0, .int .i64 0, .slice none 0 0] 29 (0, 0))) ∧ (w'.heap[s_]? = some (.cells #[.int .i64 0, .int .i64 0, .int .i64 0, .int .i64 0, .int .i64 0, .slice none 0 0] 29 (0, 0))) ∧ (w.heap.size ≤ s_) ∧ (w.heap.size ≤ s_) ∧ (gbAc ≠ s_) ∧ (s_ ≠ gbAc) ∧ (gbAb ≠ s_) ∧ (s_ ≠ gbAb) ∧ (Below w.heap.size w w')) ?_ ?_
        rotate_left
        ·
         intro hJ2_13
         refine join_ (σ := Unit) 6 #[true, true, true, true, true, false, true, true, false, true, true, false, false, false, false] (fun s_ => [(25, .int .i64 tAf)]) (fun s_ w' => (w'.heap[gbAc]? = some (.cells #[.int .i64 a0_0, .int .i64 a0_1, .int .i64 a0_2, .int .i64 a0_3, .int .i64 a0_4, .slice A0_5 l0_5.length c0_5] 24 (0, 0))) ∧ (w'.heap[gbAb]? = some (.cells #[.int .i64 0, .int .i64 0, .int .i64 0, .int .i64 0, .int .i64 0, .slice none 0 0] 29 (0, 0))) ∧ (Below w.heap.size w w')) ?_ ?_
         rotate_left
         ·
          intro hJ2
          refine join_ (σ := Nat) 6 #[true, true, false, true, true, false, true, true, false, true, true, false, false, true, false] (fun s_ => [(8, .pointer (some ⟨s_, 0, none⟩))]) (fun s_ w' => (w'.heap[gbAc]? = some (.cells #[.int .i64 a0_0, .int .i64 a0_1, .int .i64 a0_2, .int .i64 a0_3, .int .i64 a0_4, .slice A0_5 l0_5.length c0_5] 24 (0, 0))) ∧ (w'.heap[gbAb]? = some (.cells #[.int .i64 0, .int .i64 0, .int .i64 0, .int .i64 0, .int .i64 0, .slice none 0 0] 29 (0, 0))) ∧ (w'.heap[s_]? = some (.cells #[.int .i64 0, .int .i64 0, .int .i64 0, .int .i64 0, .int .i64 0, .slice none 0 0] 29 (0, 0))) ∧ (w.heap.size ≤ s_) ∧ (w.heap.size ≤ s_) ∧ (gbAc ≠ s_) ∧ (s_ ≠ gbAc) ∧ (gbAb ≠ s_) ∧ (s_ ≠ gbAb) ∧ (Below w.heap.size w w')) ?_ ?_
          rotate_left
          ·
           intro hJ13
           refine two_ (i := 2) (j := 13) (Ni := some 25) (Nj := some 8) #[true, true, true, true, true, false, true, true, false, true, true, false, false, false, false] #[true, true, false, true, true, false, true, true, false, true, true, false, false, true, false] rfl rfl rfl rfl (two_of HT_.out (by kernel_rfl)) (by decide) (by decide) (fun K hK => ?_) (fun K hK => ?_)
           ·
            skip
            refine gs_ Try.func71 #[.string (tAd.extract 0 2)] ?_
            with_reducible refine (plaitingref5_number.calls k (tAd.extract 0 2) tAf _ A12.out).mono ?_
            rintro e w' ⟨rfl, ⟨nd, rfl⟩⟩
            refine ⟨_, rfl, ?_⟩
            refine hK.out _ _ trivial (fun hHeld => ?_)
            clear hK K
            refine nq_ 25 ?_
            exact norm2_ (hJ2 () _ ⟨(pB_ BKAc.out), (pB_ BKAb.out), (pH_ HB.out)⟩)
           skip
           refine box_step ?hg (N := 8) ?hd (cs := #[.int .i64 0, .int .i64 0, .int .i64 0, .int .i64 0, .int .i64 0, .slice none 0 0]) (t := 29) ?hr ?_; (case hd => rfl); (case hg => rfl); (case hr => first | (go_simp; done) | (go_simp; rfl))
           intro gbAa hg w27 hbox hb
           have BKAa := Aside0.mk (hbox)
           have GWAa := Aside0.mk ((by rw [hg]; exact (below_size (pH_ HB.out)) : w.heap.size ≤ gbAa))
           have GEAa := Aside0.mk ((by rw [hg]; exact (below_size (pH_ HB.out)) : w.heap.size ≤ gbAa))
           have NBAc_Aa := Aside0.mk (ltB_ hg BKAc.out)
           have NBAa_Ac := Aside0.mk (ltB_ hg BKAc.out).symm
           have NBAb_Aa := Aside0.mk (ltB_ hg BKAb.out)
           have NBAa_Ab := Aside0.mk (ltB_ hg BKAb.out).symm
           replace BKAc := bb_ BKAc hb
           replace BKAb := bb_ BKAb hb
           replace HB := bs_ HB hb
           clear hb hbox hg
           refine hK.out _ _ trivial (fun hHeld => ?_)
           clear hK K
           refine nq_ 8 ?_
           exact norm2_ (hJ13 (gbAa) _ ⟨(pB_ BKAc.out), (pB_ BKAb.out), (pB_ BKAa.out), GWAa.out, GEAa.out, NBAc_Aa.out, NBAa_Ac.out, NBAb_Aa.out, NBAa_Ab.out, (pH_ HB.out)⟩)
          skip
          rintro gbAa w28 ⟨h0_, h1_, h2_, h3_, h4_, h5_, h6_, h7_, h8_, h9_⟩
          have n0_ : Aside0 (w28.heap[gbAc]? = some (.cells #[.int .i64 a0_0, .int .i64 a0_1, .int .i64 a0_2, .int .i64 a0_3, .int .i64 a0_4, .slice A0_5 l0_5.length c0_5] 24 (0, 0))) := ⟨h0_⟩
          have n1_ : Aside0 (w28.heap[gbAb]? = some (.cells #[.int .i64 0, .int .i64 0, .int .i64 0, .int .i64 0, .int .i64 0, .slice none 0 0] 29 (0, 0))) := ⟨h1_⟩
          have n2_ : Aside0 (w28.heap[gbAa]? = some (.cells #[.int .i64 0, .int .i64 0, .int .i64 0, .int .i64 0, .int .i64 0, .slice none 0 0] 29 (0, 0))) := ⟨h2_⟩
          have n3_ : Aside0 (w.heap.size ≤ gbAa) := ⟨h3_⟩
          have n4_ : Aside0 (w.heap.size ≤ gbAa) := ⟨h4_⟩
          have n5_ : Aside0 (gbAc ≠ gbAa) := ⟨h5_⟩
          have n6_ : Aside0 (gbAa ≠ gbAc) := ⟨h6_⟩
          have n7_ : Aside0 (gbAb ≠ gbAa) := ⟨h7_⟩
          have n8_ : Aside0 (gbAa ≠ gbAb) := ⟨h8_⟩
          have n9_ : Aside0 (Below w.heap.size w w28) := ⟨h9_⟩
          clear BKAc
          clear BKAb
          clear HB
          clear h0_ h1_ h2_ h3_ h4_ h5_ h6_ h7_ h8_ h9_
          have BKAc := n0_
          have BKAb := n1_
          have BKAa := n2_
          have GWAa := n3_
          have GEAa := n4_
          have NBAc_Aa := n5_
          have NBAa_Ac := n6_
          have NBAb_Aa := n7_
          have NBAa_Ab := n8_
          have HB := n9_
          clear n0_ n1_ n2_ n3_ n4_ n5_ n6_ n7_ n8_ n9_
          have hHeld := trivial
          refine norm_ (a' := ?_) ?_ ?_
          rotate_left
          ·
           simp only [putAll, Act.put, List.setIfInBounds_toArray, List.set_cons_zero, List.set_cons_succ]
           rfl
          refine oq_ 2 25 HT_ (fun K hK => ?_)
          refine gs_ Try.func71 #[.string (tAd.extract 0 2)] ?_
          with_reducible refine (plaitingref5_number.calls k (tAd.extract 0 2) tAf _ A12.out).mono ?_
          rintro e w' ⟨rfl, ⟨nd, rfl⟩⟩
          refine ⟨_, rfl, ?_⟩
          refine hK.out _ _ trivial (fun hHeld => ?_)
          clear hK K
          refine nq_ 25 ?_
          exact norm2_ (hJ2_13 (gbAa) _ ⟨(pB_ BKAc.out), (pB_ BKAb.out), (pB_ BKAa.out), GWAa.out, GEAa.out, NBAc_Aa.out, NBAa_Ac.out, NBAb_Aa.out, NBAa_Ab.out, (pH_ HB.out)⟩)
         skip
         rintro _ w27 ⟨h0_, h1_, h2_⟩
         have n0_ : Aside0 (w27.heap[gbAc]? = some (.cells #[.int .i64 a0_0, .int .i64 a0_1, .int .i64 a0_2, .int .i64 a0_3, .int .i64 a0_4, .slice A0_5 l0_5.length c0_5] 24 (0, 0))) := ⟨h0_⟩
         have n1_ : Aside0 (w27.heap[gbAb]? = some (.cells #[.int .i64 0, .int .i64 0, .int .i64 0, .int .i64 0, .int .i64 0, .slice none 0 0] 29 (0, 0))) := ⟨h1_⟩
         have n2_ : Aside0 (Below w.heap.size w w27) := ⟨h2_⟩
         clear BKAc
         clear BKAb
         clear HB
         clear h0_ h1_ h2_
         have BKAc := n0_
         have BKAb := n1_
         have HB := n2_
         clear n0_ n1_ n2_
         have hHeld := trivial
         refine norm_ (a' := ?_) ?_ ?_
         rotate_left
         ·
          simp only [putAll, Act.put, List.setIfInBounds_toArray, List.set_cons_zero, List.set_cons_succ]
          rfl
         refine two_ (i := 5) (j := 13) (Ni := some 28) (Nj := some 8) #[true, true, true, true, true, true, true, true, false, true, true, false, false, false, false] #[true, true, true, true, true, false, true, true, false, true, true, false, false, true, false] rfl rfl rfl rfl (two_of HT_.out (by kernel_rfl)) (by decide) (by decide) (fun K hK => ?_) (fun K hK => ?_)
         ·
          skip
          refine gs_ Try.func71 #[.string (tAd.extract 2 18)] ?_
          with_reducible refine (plaitingref5_number.calls k (tAd.extract 2 18) tAg _ A15.out).mono ?_
          rintro e w' ⟨rfl, ⟨nd, rfl⟩⟩
          refine ⟨_, rfl, ?_⟩
          refine hK.out _ _ trivial (fun hHeld => ?_)
          clear hK K
          refine nq_ 28 ?_
          exact norm2_ (hJ2_5 () _ ⟨(pB_ BKAc.out), (pB_ BKAb.out), (pH_ HB.out)⟩)
         skip
         refine box_step ?hg (N := 8) ?hd (cs := #[.int .i64 0, .int .i64 0, .int .i64 0, .int .i64 0, .int .i64 0, .slice none 0 0]) (t := 29) ?hr ?_; (case hd => rfl); (case hg => rfl); (case hr => first | (go_simp; done) | (go_simp; rfl))
         intro gbAa hg w28 hbox hb
         have BKAa := Aside0.mk (hbox)
         have GWAa := Aside0.mk ((by rw [hg]; exact (below_size (pH_ HB.out)) : w.heap.size ≤ gbAa))
         have GEAa := Aside0.mk ((by rw [hg]; exact (below_size (pH_ HB.out)) : w.heap.size ≤ gbAa))
         have NBAc_Aa := Aside0.mk (ltB_ hg BKAc.out)
         have NBAa_Ac := Aside0.mk (ltB_ hg BKAc.out).symm
         have NBAb_Aa := Aside0.mk (ltB_ hg BKAb.out)
         have NBAa_Ab := Aside0.mk (ltB_ hg BKAb.out).symm
         replace BKAc := bb_ BKAc hb
         replace BKAb := bb_ BKAb hb
         replace HB := bs_ HB hb
         clear hb hbox hg
         refine hK.out _ _ trivial (fun hHeld => ?_)
         clear hK K
         refine nq_ 8 ?_
         exact norm2_ (hJ2_13 (gbAa) _ ⟨(pB_ BKAc.out), (pB_ BKAb.out), (pB_ BKAa.out), GWAa.out, GEAa.out, NBAc_Aa.out, NBAa_Ac.out, NBAb_Aa.out, NBAa_Ab.out, (pH_ HB.out)⟩)
        skip
        rintro gbAa w28 ⟨h0_, h1_, h2_, h3_, h4_, h5_, h6_, h7_, h8_, h9_⟩
        have n0_ : Aside0 (w28.heap[gbAc]? = some (.cells #[.int .i64 a0_0, .int .i64 a0_1, .int .i64 a0_2, .int .i64 a0_3, .int .i64 a0_4, .slice A0_5 l0_5.length c0_5] 24 (0, 0))) := ⟨h0_⟩
        have n1_ : Aside0 (w28.heap[gbAb]? = some (.cells #[.int .i64 0, .int .i64 0, .int .i64 0, .int .i64 0, .int .i64 0, .slice none 0 0] 29 (0, 0))) := ⟨h1_⟩
        have n2_ : Aside0 (w28.heap[gbAa]? = some (.cells #[.int .i64 0, .int .i64 0, .int .i64 0, .int .i64 0, .int .i64 0, .slice none 0 0] 29 (0, 0))) := ⟨h2_⟩
        have n3_ : Aside0 (w.heap.size ≤ gbAa) := ⟨h3_⟩
        have n4_ : Aside0 (w.heap.size ≤ gbAa) := ⟨h4_⟩
        have n5_ : Aside0 (gbAc ≠ gbAa) := ⟨h5_⟩
        have n6_ : Aside0 (gbAa ≠ gbAc) := ⟨h6_⟩
        have n7_ : Aside0 (gbAb ≠ gbAa) := ⟨h7_⟩
        have n8_ : Aside0 (gbAa ≠ gbAb) := ⟨h8_⟩
        have n9_ : Aside0 (Below w.heap.size w w28) := ⟨h9_⟩
        clear BKAc
        clear BKAb
        clear HB
        clear h0_ h1_ h2_ h3_ h4_ h5_ h6_ h7_ h8_ h9_
        have BKAc := n0_
        have BKAb := n1_
        have BKAa := n2_
        have GWAa := n3_
        have GEAa := n4_
        have NBAc_Aa := n5_
        have NBAa_Ac := n6_
        have NBAb_Aa := n7_
        have NBAa_Ab := n8_
        have HB := n9_
        clear n0_ n1_ n2_ n3_ n4_ n5_ n6_ n7_ n8_ n9_
        have hHeld := trivial
        refine norm_ (a' := ?_) ?_ ?_
        rotate_left
        ·
         simp only [putAll, Act.put, List.setIfInBounds_toArray, List.set_cons_zero, List.set_cons_succ]
         rfl
        refine oq_ 5 28 HT_ (fun K hK => ?_)
        refine gs_ Try.func71 #[.string (tAd.extract 2 18)] ?_
        with_reducible refine (plaitingref5_number.calls k (tAd.extract 2 18) tAg _ A15.out).mono ?_
        rintro e w' ⟨rfl, ⟨nd, rfl⟩⟩
        refine ⟨_, rfl, ?_⟩
        refine hK.out _ _ trivial (fun hHeld => ?_)
        clear hK K
        refine nq_ 28 ?_
        exact norm2_ (hJ2_5_13 (gbAa) _ ⟨(pB_ BKAc.out), (pB_ BKAb.out), (pB_ BKAa.out), GWAa.out, GEAa.out, NBAc_Aa.out, NBAa_Ac.out, NBAb_Aa.out, NBAa_Ab.out, (pH_ HB.out)⟩)
       skip
       rintro _ w27 ⟨h0_, h1_, h2_⟩
       have n0_ : Aside0 (w27.heap[gbAc]? = some (.cells #[.int .i64 a0_0, .int .i64 a0_1, .int .i64 a0_2, .int .i64 a0_3, .int .i64 a0_4, .slice A0_5 l0_5.length c0_5] 24 (0, 0))) := ⟨h0_⟩
       have n1_ : Aside0 (w27.heap[gbAb]? = some (.cells #[.int .i64 0, .int .i64 0, .int .i64 0, .int .i64 0, .int .i64 0, .slice none 0 0] 29 (0, 0))) := ⟨h1_⟩
       have n2_ : Aside0 (Below w.heap.size w w27) := ⟨h2_⟩
       clear BKAc
       clear BKAb
       clear HB
       clear h0_ h1_ h2_
       have BKAc := n0_
       have BKAb := n1_
       have HB := n2_
       clear n0_ n1_ n2_
       have hHeld := trivial
       refine norm_ (a' := ?_) ?_ ?_
       rotate_left
       ·
        simp only [putAll, Act.put, List.setIfInBounds_toArray, List.set_cons_zero, List.set_cons_succ]
        rfl
       refine two_ (i := 8) (j := 13) (Ni := some 31) (Nj := some 8) #[true, true, true, true, true, true, true, true, true, true, true, false, false, false, false] #[true, true, true, true, true, true, true, true, false, true, true, false, false, true, false] rfl rfl rfl rfl (two_of HT_.out (by kernel_rfl)) (by decide) (by decide) (fun K hK => ?_) (fun K hK => ?_)
       ·
        skip
        refine gs_ Try.func71 #[.string (tAd.extract 18 24)] ?_
        with_reducible refine (plaitingref5_number.calls k (tAd.extract 18 24) tAh _ A18.out).mono ?_
        rintro e w' ⟨rfl, ⟨nd, rfl⟩⟩
        refine ⟨_, rfl, ?_⟩
        refine hK.out _ _ trivial (fun hHeld => ?_)
        clear hK K
        refine nq_ 31 ?_
        exact norm2_ (hJ2_5_8 () _ ⟨(pB_ BKAc.out), (pB_ BKAb.out), (pH_ HB.out)⟩)
       skip
       refine box_step ?hg (N := 8) ?hd (cs := #[.int .i64 0, .int .i64 0, .int .i64 0, .int .i64 0, .int .i64 0, .slice none 0 0]) (t := 29) ?hr ?_; (case hd => rfl); (case hg => rfl); (case hr => first | (go_simp; done) | (go_simp; rfl))
       intro gbAa hg w28 hbox hb
       have BKAa := Aside0.mk (hbox)
       have GWAa := Aside0.mk ((by rw [hg]; exact (below_size (pH_ HB.out)) : w.heap.size ≤ gbAa))
       have GEAa := Aside0.mk ((by rw [hg]; exact (below_size (pH_ HB.out)) : w.heap.size ≤ gbAa))
       have NBAc_Aa := Aside0.mk (ltB_ hg BKAc.out)
       have NBAa_Ac := Aside0.mk (ltB_ hg BKAc.out).symm
       have NBAb_Aa := Aside0.mk (ltB_ hg BKAb.out)
       have NBAa_Ab := Aside0.mk (ltB_ hg BKAb.out).symm
       replace BKAc := bb_ BKAc hb
       replace BKAb := bb_ BKAb hb
       replace HB := bs_ HB hb
       clear hb hbox hg
       refine hK.out _ _ trivial (fun hHeld => ?_)
       clear hK K
       refine nq_ 8 ?_
       exact norm2_ (hJ2_5_13 (gbAa) _ ⟨(pB_ BKAc.out), (pB_ BKAb.out), (pB_ BKAa.out), GWAa.out, GEAa.out, NBAc_Aa.out, NBAa_Ac.out, NBAb_Aa.out, NBAa_Ab.out, (pH_ HB.out)⟩)
      skip
      rintro gbAa w28 ⟨h0_, h1_, h2_, h3_, h4_, h5_, h6_, h7_, h8_, h9_⟩
      have n0_ : Aside0 (w28.heap[gbAc]? = some (.cells #[.int .i64 a0_0, .int .i64 a0_1, .int .i64 a0_2, .int .i64 a0_3, .int .i64 a0_4, .slice A0_5 l0_5.length c0_5] 24 (0, 0))) := ⟨h0_⟩
      have n1_ : Aside0 (w28.heap[gbAb]? = some (.cells #[.int .i64 0, .int .i64 0, .int .i64 0, .int .i64 0, .int .i64 0, .slice none 0 0] 29 (0, 0))) := ⟨h1_⟩
      have n2_ : Aside0 (w28.heap[gbAa]? = some (.cells #[.int .i64 0, .int .i64 0, .int .i64 0, .int .i64 0, .int .i64 0, .slice none 0 0] 29 (0, 0))) := ⟨h2_⟩
      have n3_ : Aside0 (w.heap.size ≤ gbAa) := ⟨h3_⟩
      have n4_ : Aside0 (w.heap.size ≤ gbAa) := ⟨h4_⟩
      have n5_ : Aside0 (gbAc ≠ gbAa) := ⟨h5_⟩
      have n6_ : Aside0 (gbAa ≠ gbAc) := ⟨h6_⟩
      have n7_ : Aside0 (gbAb ≠ gbAa) := ⟨h7_⟩
      have n8_ : Aside0 (gbAa ≠ gbAb) := ⟨h8_⟩
      have n9_ : Aside0 (Below w.heap.size w w28) := ⟨h9_⟩
      clear BKAc
      clear BKAb
      clear HB
      clear h0_ h1_ h2_ h3_ h4_ h5_ h6_ h7_ h8_ h9_
      have BKAc := n0_
      have BKAb := n1_
      have BKAa := n2_
      have GWAa := n3_
      have GEAa := n4_
      have NBAc_Aa := n5_
      have NBAa_Ac := n6_
      have NBAb_Aa := n7_
      have NBAa_Ab := n8_
      have HB := n9_
      clear n0_ n1_ n2_ n3_ n4_ n5_ n6_ n7_ n8_ n9_
      have hHeld := trivial
      refine norm_ (a' := ?_) ?_ ?_
      rotate_left
      ·
       simp only [putAll, Act.put, List.setIfInBounds_toArray, List.set_cons_zero, List.set_cons_succ]
       rfl
      refine oq_ 8 31 HT_ (fun K hK => ?_)
      refine gs_ Try.func71 #[.string (tAd.extract 18 24)] ?_
      with_reducible refine (plaitingref5_number.calls k (tAd.extract 18 24) tAh _ A18.out).mono ?_
      rintro e w' ⟨rfl, ⟨nd, rfl⟩⟩
      refine ⟨_, rfl, ?_⟩
      refine hK.out _ _ trivial (fun hHeld => ?_)
      clear hK K
      refine nq_ 31 ?_
      exact norm2_ (hJ2_5_8_13 (gbAa) _ ⟨(pB_ BKAc.out), (pB_ BKAb.out), (pB_ BKAa.out), GWAa.out, GEAa.out, NBAc_Aa.out, NBAa_Ac.out, NBAb_Aa.out, NBAa_Ab.out, (pH_ HB.out)⟩)
     skip
     rintro _ w27 ⟨h0_, h1_, h2_⟩
     have n0_ : Aside0 (w27.heap[gbAc]? = some (.cells #[.int .i64 a0_0, .int .i64 a0_1, .int .i64 a0_2, .int .i64 a0_3, .int .i64 a0_4, .slice A0_5 l0_5.length c0_5] 24 (0, 0))) := ⟨h0_⟩
     have n1_ : Aside0 (w27.heap[gbAb]? = some (.cells #[.int .i64 0, .int .i64 0, .int .i64 0, .int .i64 0, .int .i64 0, .slice none 0 0] 29 (0, 0))) := ⟨h1_⟩
     have n2_ : Aside0 (Below w.heap.size w w27) := ⟨h2_⟩
     clear BKAc
     clear BKAb
     clear HB
     clear h0_ h1_ h2_
     have BKAc := n0_
     have BKAb := n1_
     have HB := n2_
     clear n0_ n1_ n2_
     have hHeld := trivial
     refine norm_ (a' := ?_) ?_ ?_
     rotate_left
     ·
      simp only [putAll, Act.put, List.setIfInBounds_toArray, List.set_cons_zero, List.set_cons_succ]
      rfl
     refine two_ (i := 11) (j := 13) (Ni := some 34) (Nj := some 8) #[true, true, true, true, true, true, true, true, true, true, true, true, false, false, false] #[true, true, true, true, true, true, true, true, true, true, true, false, false, true, false] rfl rfl rfl rfl (two_of HT_.out (by kernel_rfl)) (by decide) (by decide) (fun K hK => ?_) (fun K hK => ?_)
     ·
      skip
      refine gs_ Try.func72 #[.string (tAd.extract 24 34)] ?_
      with_reducible refine (plaitingref5_read.calls k (tAd.extract 24 34) tAi tAj _ A21.out).mono ?_
      rintro e w28 ⟨rfl, hb⟩
      refine ⟨_, rfl, ?_⟩
      replace BKAc := bb_ BKAc hb
      replace BKAb := bb_ BKAb hb
      replace HB := bs_ HB hb
      (try clear hb)
      (try clear hb2)
      (try clear hk)
      (try clear hi)
      refine hK.out _ _ trivial (fun hHeld => ?_)
      clear hK K
      refine nq_ 34 ?_
      refine pq_ 12 35 HT_ ?_
      exact norm2_ (hJ2_5_8_11 () _ ⟨(pB_ BKAc.out), (pB_ BKAb.out), (pH_ HB.out)⟩)
     skip
     refine box_step ?hg (N := 8) ?hd (cs := #[.int .i64 0, .int .i64 0, .int .i64 0, .int .i64 0, .int .i64 0, .slice none 0 0]) (t := 29) ?hr ?_; (case hd => rfl); (case hg => rfl); (case hr => first | (go_simp; done) | (go_simp; rfl))
     intro gbAa hg w28 hbox hb
     have BKAa := Aside0.mk (hbox)
     have GWAa := Aside0.mk ((by rw [hg]; exact (below_size (pH_ HB.out)) : w.heap.size ≤ gbAa))
     have GEAa := Aside0.mk ((by rw [hg]; exact (below_size (pH_ HB.out)) : w.heap.size ≤ gbAa))
     have NBAc_Aa := Aside0.mk (ltB_ hg BKAc.out)
     have NBAa_Ac := Aside0.mk (ltB_ hg BKAc.out).symm
     have NBAb_Aa := Aside0.mk (ltB_ hg BKAb.out)
     have NBAa_Ab := Aside0.mk (ltB_ hg BKAb.out).symm
     replace BKAc := bb_ BKAc hb
     replace BKAb := bb_ BKAb hb
     replace HB := bs_ HB hb
     clear hb hbox hg
     refine hK.out _ _ trivial (fun hHeld => ?_)
     clear hK K
     refine nq_ 8 ?_
     exact norm2_ (hJ2_5_8_13 (gbAa) _ ⟨(pB_ BKAc.out), (pB_ BKAb.out), (pB_ BKAa.out), GWAa.out, GEAa.out, NBAc_Aa.out, NBAa_Ac.out, NBAb_Aa.out, NBAa_Ab.out, (pH_ HB.out)⟩)
    skip
    rintro gbAa w28 ⟨h0_, h1_, h2_, h3_, h4_, h5_, h6_, h7_, h8_, h9_⟩
    have n0_ : Aside0 (w28.heap[gbAc]? = some (.cells #[.int .i64 a0_0, .int .i64 a0_1, .int .i64 a0_2, .int .i64 a0_3, .int .i64 a0_4, .slice A0_5 l0_5.length c0_5] 24 (0, 0))) := ⟨h0_⟩
    have n1_ : Aside0 (w28.heap[gbAb]? = some (.cells #[.int .i64 0, .int .i64 0, .int .i64 0, .int .i64 0, .int .i64 0, .slice none 0 0] 29 (0, 0))) := ⟨h1_⟩
    have n2_ : Aside0 (w28.heap[gbAa]? = some (.cells #[.int .i64 0, .int .i64 0, .int .i64 0, .int .i64 0, .int .i64 0, .slice none 0 0] 29 (0, 0))) := ⟨h2_⟩
    have n3_ : Aside0 (w.heap.size ≤ gbAa) := ⟨h3_⟩
    have n4_ : Aside0 (w.heap.size ≤ gbAa) := ⟨h4_⟩
    have n5_ : Aside0 (gbAc ≠ gbAa) := ⟨h5_⟩
    have n6_ : Aside0 (gbAa ≠ gbAc) := ⟨h6_⟩
    have n7_ : Aside0 (gbAb ≠ gbAa) := ⟨h7_⟩
    have n8_ : Aside0 (gbAa ≠ gbAb) := ⟨h8_⟩
    have n9_ : Aside0 (Below w.heap.size w w28) := ⟨h9_⟩
    clear BKAc
    clear BKAb
    clear HB
    clear h0_ h1_ h2_ h3_ h4_ h5_ h6_ h7_ h8_ h9_
    have BKAc := n0_
    have BKAb := n1_
    have BKAa := n2_
    have GWAa := n3_
    have GEAa := n4_
    have NBAc_Aa := n5_
    have NBAa_Ac := n6_
    have NBAb_Aa := n7_
    have NBAa_Ab := n8_
    have HB := n9_
    clear n0_ n1_ n2_ n3_ n4_ n5_ n6_ n7_ n8_ n9_
    have hHeld := trivial
    refine norm_ (a' := ?_) ?_ ?_
    rotate_left
    ·
     simp only [putAll, Act.put, List.setIfInBounds_toArray, List.set_cons_zero, List.set_cons_succ]
     rfl
    refine oq_ 11 34 HT_ (fun K hK => ?_)
    refine gs_ Try.func72 #[.string (tAd.extract 24 34)] ?_
    with_reducible refine (plaitingref5_read.calls k (tAd.extract 24 34) tAi tAj _ A21.out).mono ?_
    rintro e w29 ⟨rfl, hb⟩
    refine ⟨_, rfl, ?_⟩
    replace BKAc := bb_ BKAc hb
    replace BKAb := bb_ BKAb hb
    replace BKAa := bb_ BKAa hb
    replace HB := bs_ HB hb
    (try clear hb)
    (try clear hb2)
    (try clear hk)
    (try clear hi)
    refine hK.out _ _ trivial (fun hHeld => ?_)
    clear hK K
    refine nq_ 34 ?_
    refine pq_ 12 35 HT_ ?_
    exact norm2_ (hJ2_5_8_11_13 (gbAa) _ ⟨(pB_ BKAc.out), (pB_ BKAb.out), (pB_ BKAa.out), GWAa.out, GEAa.out, NBAc_Aa.out, NBAa_Ac.out, NBAb_Aa.out, NBAa_Ab.out, (pH_ HB.out)⟩)
   skip
   rintro _ w28 ⟨h0_, h1_, h2_⟩
   have n0_ : Aside0 (w28.heap[gbAc]? = some (.cells #[.int .i64 a0_0, .int .i64 a0_1, .int .i64 a0_2, .int .i64 a0_3, .int .i64 a0_4, .slice A0_5 l0_5.length c0_5] 24 (0, 0))) := ⟨h0_⟩
   have n1_ : Aside0 (w28.heap[gbAb]? = some (.cells #[.int .i64 0, .int .i64 0, .int .i64 0, .int .i64 0, .int .i64 0, .slice none 0 0] 29 (0, 0))) := ⟨h1_⟩
   have n2_ : Aside0 (Below w.heap.size w w28) := ⟨h2_⟩
   clear BKAc
   clear BKAb
   clear HB
   clear h0_ h1_ h2_
   have BKAc := n0_
   have BKAb := n1_
   have HB := n2_
   clear n0_ n1_ n2_
   have hHeld := trivial
   refine norm_ (a' := ?_) ?_ ?_
   rotate_left
   ·
    simp only [putAll, Act.put, List.setIfInBounds_toArray, List.set_cons_zero, List.set_cons_succ]
    rfl
   refine oq_ 13 8 HT_ (fun K hK => ?_)
   refine box_step ?hg (N := 8) ?hd (cs := #[.int .i64 0, .int .i64 0, .int .i64 0, .int .i64 0, .int .i64 0, .slice none 0 0]) (t := 29) ?hr ?_; (case hd => rfl); (case hg => rfl); (case hr => first | (go_simp; done) | (go_simp; rfl))
   intro gbAa hg w29 hbox hb
   have BKAa := Aside0.mk (hbox)
   have GWAa := Aside0.mk ((by rw [hg]; exact (below_size (pH_ HB.out)) : w.heap.size ≤ gbAa))
   have GEAa := Aside0.mk ((by rw [hg]; exact (below_size (pH_ HB.out)) : w.heap.size ≤ gbAa))
   have NBAc_Aa := Aside0.mk (ltB_ hg BKAc.out)
   have NBAa_Ac := Aside0.mk (ltB_ hg BKAc.out).symm
   have NBAb_Aa := Aside0.mk (ltB_ hg BKAb.out)
   have NBAa_Ab := Aside0.mk (ltB_ hg BKAb.out).symm
   replace BKAc := bb_ BKAc hb
   replace BKAb := bb_ BKAb hb
   replace HB := bs_ HB hb
   clear hb hbox hg
   refine hK.out _ _ trivial (fun hHeld => ?_)
   clear hK K
   refine nq_ 8 ?_
   exact norm2_ (hJ2_5_8_11_13 (gbAa) _ ⟨(pB_ BKAc.out), (pB_ BKAb.out), (pB_ BKAa.out), GWAa.out, GEAa.out, NBAc_Aa.out, NBAa_Ac.out, NBAb_Aa.out, NBAa_Ab.out, (pH_ HB.out)⟩)
  rintro gbAa w29 ⟨h0_, h1_, h2_, h3_, h4_, h5_, h6_, h7_, h8_, h9_⟩
  have n0_ : Aside0 (w29.heap[gbAc]? = some (.cells #[.int .i64 a0_0, .int .i64 a0_1, .int .i64 a0_2, .int .i64 a0_3, .int .i64 a0_4, .slice A0_5 l0_5.length c0_5] 24 (0, 0))) := ⟨h0_⟩
  have n1_ : Aside0 (w29.heap[gbAb]? = some (.cells #[.int .i64 0, .int .i64 0, .int .i64 0, .int .i64 0, .int .i64 0, .slice none 0 0] 29 (0, 0))) := ⟨h1_⟩
  have n2_ : Aside0 (w29.heap[gbAa]? = some (.cells #[.int .i64 0, .int .i64 0, .int .i64 0, .int .i64 0, .int .i64 0, .slice none 0 0] 29 (0, 0))) := ⟨h2_⟩
  have n3_ : Aside0 (w.heap.size ≤ gbAa) := ⟨h3_⟩
  have n4_ : Aside0 (w.heap.size ≤ gbAa) := ⟨h4_⟩
  have n5_ : Aside0 (gbAc ≠ gbAa) := ⟨h5_⟩
  have n6_ : Aside0 (gbAa ≠ gbAc) := ⟨h6_⟩
  have n7_ : Aside0 (gbAb ≠ gbAa) := ⟨h7_⟩
  have n8_ : Aside0 (gbAa ≠ gbAb) := ⟨h8_⟩
  have n9_ : Aside0 (Below w.heap.size w w29) := ⟨h9_⟩
  clear BKAc
  clear BKAb
  clear HB
  clear h0_ h1_ h2_ h3_ h4_ h5_ h6_ h7_ h8_ h9_
  have BKAc := n0_
  have BKAb := n1_
  have BKAa := n2_
  have GWAa := n3_
  have GEAa := n4_
  have NBAc_Aa := n5_
  have NBAa_Ac := n6_
  have NBAb_Aa := n7_
  have NBAa_Ab := n8_
  have HB := n9_
  clear n0_ n1_ n2_ n3_ n4_ n5_ n6_ n7_ n8_ n9_
  have hHeld := trivial
  refine norm_ (a' := ?_) ?_ ?_
  rotate_left
  ·
   simp only [putAll, Act.put, List.setIfInBounds_toArray, List.set_cons_zero, List.set_cons_succ]
   rfl
  refine one_ (i := 14) (N := none) #[true, true, true, true, true, true, true, true, true, true, true, true, true, true, true] rfl rfl (one_of HT_.out (by kernel_rfl)) (by decide) (fun K hK => ?_)
  have hs30 : w29.cell? ⟨gbAa, 0, none⟩ = some (.int .i64 0) := bc_ BKAa 0
  have hfs30 := blk_frozen BKAa.out 0
  have hns30_0 := NBAc_Aa.out
  have hns30_1 := NBAb_Aa.out
  have hms30_0 := NBAa_Ac.out
  have hms30_1 := NBAa_Ab.out
  have hs31 : w29.cell? ⟨gbAa, 1, none⟩ = some (.int .i64 0) := bc_ BKAa 1
  have hfs31 := blk_frozen BKAa.out 1
  have hns31_0 := NBAc_Aa.out
  have hns31_1 := NBAb_Aa.out
  have hms31_0 := NBAa_Ac.out
  have hms31_1 := NBAa_Ab.out
  have hs32 : w29.cell? ⟨gbAa, 2, none⟩ = some (.int .i64 0) := bc_ BKAa 2
  have hfs32 := blk_frozen BKAa.out 2
  have hns32_0 := NBAc_Aa.out
  have hns32_1 := NBAb_Aa.out
  have hms32_0 := NBAa_Ac.out
  have hms32_1 := NBAa_Ab.out
  have hs33 : w29.cell? ⟨gbAa, 3, none⟩ = some (.int .i64 0) := bc_ BKAa 3
  have hfs33 := blk_frozen BKAa.out 3
  have hns33_0 := NBAc_Aa.out
  have hns33_1 := NBAb_Aa.out
  have hms33_0 := NBAa_Ac.out
  have hms33_1 := NBAa_Ab.out
  have hs34 : w29.cell? ⟨gbAa, 4, none⟩ = some (.int .i64 0) := bc_ BKAa 4
  have hfs34 := blk_frozen BKAa.out 4
  have hns34_0 := NBAc_Aa.out
  have hns34_1 := NBAb_Aa.out
  have hms34_0 := NBAa_Ac.out
  have hms34_1 := NBAa_Ab.out
  have hs35 : w29.cell? ⟨gbAa, 5, none⟩ = some (.slice none 0 0) := bc_ BKAa 5
  have hfs35 := blk_frozen BKAa.out 5
  have hns35_0 := NBAc_Aa.out
  have hns35_1 := NBAb_Aa.out
  have hms35_0 := NBAa_Ac.out
  have hms35_1 := NBAa_Ab.out
  refine skip_ (w1 := ?_) (by rfl) rfl ?_ ?_
  rotate_left
  ·
   go_simp
   rfl
  refine hK.out _ _ trivial (fun hHeld => ?_)
  clear hK K
  refine done_ (done_of HT_.out (by kernel_rfl)) ?_
  have hnb36 := NBAc_Ab.out
  have hnc36 := NBAb_Ac.out
  have hnb37 := NBAc_Aa.out
  have hnc37 := NBAa_Ac.out
  obtain ⟨hcz38_0, hcz38_1, hcz38_2, hcz38_3, hcz38_4, hcz38_5⟩ := c6_ BKAc
  obtain ⟨hfz38_0, hfz38_1, hfz38_2, hfz38_3, hfz38_4, hfz38_5⟩ := f6_ BKAc
  have hnb39 := NBAa_Ab.out
  have hnc39 := NBAb_Aa.out
  obtain ⟨hcz40_0, hcz40_1, hcz40_2, hcz40_3, hcz40_4, hcz40_5⟩ := c6_ BKAa
  obtain ⟨hfz40_0, hfz40_1, hfz40_2, hfz40_3, hfz40_4, hfz40_5⟩ := f6_ BKAa
  try go_wp2_with (first | ((with_reducible refine gate_callee (f := 54) rfl ?_); refine gL_ 44 Try.func54 #[.agg #[.int .i64 a0_0, .int .i64 a0_1, .int .i64 a0_2, .int .i64 a0_3, .int .i64 a0_4, .slice A0_5 l0_5.length c0_5], .int .i64 tAf, .int .i64 tAh] ?_; (with_reducible refine (plaitingref5_echoes.calls a0_0 a0_1 a0_2 a0_3 a0_4 _ _ l0_5 tAf tAh tAe _ ?side1 ?side2 A22.out).mono ?_); (case side1 => exact Kd.C_below HR0_5.out (pH_ HB.out)); (case side2 => exact HC0_5.out); rintro e w41 ⟨rfl, hb⟩; refine ⟨_, rfl, ?_⟩; replace BKAc := Aside0.mk (blk_below (g := gbAc) (o := .cells #[.int .i64 a0_0, .int .i64 a0_1, .int .i64 a0_2, .int .i64 a0_3, .int .i64 a0_4, .slice A0_5 l0_5.length c0_5] 24 (0, 0)) (bF_ BKAc.out NBAc_Aa.out) hb); replace BKAb := Aside0.mk (blk_below (g := gbAb) (o := .cells #[.int .i64 0, .int .i64 0, .int .i64 0, .int .i64 0, .int .i64 0, .slice none 0 0] 29 (0, 0)) (bF_ BKAb.out NBAb_Aa.out) hb); replace BKAa := Aside0.mk (blk_below (g := gbAa) (o := .cells #[.int .i64 tAf, .int .i64 tAg, .int .i64 tAh, .int .i64 tAi, .int .i64 tAj, .slice none 0 0] 29 (0, 0)) (by (with_reducible repeat (first | refine blk_drewN ?_ _ | refine blk_drew ?_ | refine blk_alloc ?_ _)); refine blk_put (cs := #[.int .i64 tAf, .int .i64 tAg, .int .i64 tAh, .int .i64 tAi, .int .i64 tAj, .slice none 0 0]) ?_ 5 _ rfl; (with_reducible repeat (first | refine blk_drewN ?_ _ | refine blk_drew ?_ | refine blk_alloc ?_ _)); refine blk_put (cs := #[.int .i64 tAf, .int .i64 tAg, .int .i64 tAh, .int .i64 tAi, .int .i64 0, .slice none 0 0]) ?_ 4 _ rfl; (with_reducible repeat (first | refine blk_drewN ?_ _ | refine blk_drew ?_ | refine blk_alloc ?_ _)); refine blk_put (cs := #[.int .i64 tAf, .int .i64 tAg, .int .i64 tAh, .int .i64 0, .int .i64 0, .slice none 0 0]) ?_ 3 _ rfl; (with_reducible repeat (first | refine blk_drewN ?_ _ | refine blk_drew ?_ | refine blk_alloc ?_ _)); refine blk_put (cs := #[.int .i64 tAf, .int .i64 tAg, .int .i64 0, .int .i64 0, .int .i64 0, .slice none 0 0]) ?_ 2 _ rfl; (with_reducible repeat (first | refine blk_drewN ?_ _ | refine blk_drew ?_ | refine blk_alloc ?_ _)); refine blk_put (cs := #[.int .i64 tAf, .int .i64 0, .int .i64 0, .int .i64 0, .int .i64 0, .slice none 0 0]) ?_ 1 _ rfl; (with_reducible repeat (first | refine blk_drewN ?_ _ | refine blk_drew ?_ | refine blk_alloc ?_ _)); refine blk_put (cs := #[.int .i64 0, .int .i64 0, .int .i64 0, .int .i64 0, .int .i64 0, .slice none 0 0]) ?_ 0 _ rfl; (with_reducible repeat (first | refine blk_drewN ?_ _ | refine blk_drew ?_ | refine blk_alloc ?_ _)); exact BKAa.out) hb); replace HB := bs_ HB hb; (try clear hb); (try clear hb2); (try clear hk); (try clear hi)))
  go_loopg [9] k (fun kq v9 w' => ∃ (x9_1 : Int) (x72111005_1 : List (S26)) (uAe005 : Value), v9 = .int .i64 x9_1 ∧ Aside0 (plaitingref5_Read.l0 kq tAd x9_1 a0_0 a0_1 a0_2 a0_3 a0_4 l0_5 tAf tAg tAh tAi tAj x72111005_1 = some (r1, r2, r3, r4, r5, r6, r7)) ∧ Aside0 (kq ≤ k) ∧ Aside0 (Kd.R k26 26 w' w.heap.size (fun _ => True) uAe005 x72111005_1) ∧ Aside0 (w'.heap[gbAc]? = some (.cells #[.int .i64 a0_0, .int .i64 a0_1, .int .i64 a0_2, .int .i64 a0_3, .int .i64 a0_4, (.slice A0_5 l0_5.length c0_5)] 24 (0, 0))) ∧ Aside0 (w'.heap[gbAb]? = some (.cells #[.int .i64 0, .int .i64 0, .int .i64 0, .int .i64 0, .int .i64 0, (.slice none 0 0)] 29 (0, 0))) ∧ Aside0 (w'.heap[gbAa]? = some (.cells #[.int .i64 tAf, .int .i64 tAg, .int .i64 tAh, .int .i64 tAi, .int .i64 tAj, uAe005] 29 (0, 0))) ∧ Aside0 (Below w.heap.size w w'))
  case atStart => exact ⟨(34), (([] : List (S26))), (.slice none 0 0), (by first | rfl | (simp; done) | (simp [*]; done)), H', ⟨Nat.le_refl _⟩, ⟨by first | exact Kd.R_nil _ _ _ _ _ | exact Kd.N_nil _ _ _ _ _ | exact Kd.V_nil _ _ _ _ _ | exact Kd.Q_nil _ _ _ _ _ | exact Kd.S_nil _ _ _ _ _⟩, ⟨pB_ BKAc.out⟩, ⟨pB_ BKAb.out⟩, ⟨pB_ BKAa.out⟩, ⟨pH_ HB.out⟩⟩
  case round =>
   clear H'
   try clear p2
   try clear c3
   try clear c5
   try clear c7
   try clear c36
   try clear c37
   try clear c39
   try clear hcz38_0 hcz38_1 hcz38_2 hcz38_3 hcz38_4 hcz38_5
   try clear hcz40_0 hcz40_1 hcz40_2 hcz40_3 hcz40_4 hcz40_5
   try clear hfz38_0 hfz38_1 hfz38_2 hfz38_3 hfz38_4 hfz38_5
   try clear hfz40_0 hfz40_1 hfz40_2 hfz40_3 hfz40_4 hfz40_5
   obtain ⟨x9_1, x72111005_1, uAe005, rfl, HA, HK1, HO_Ae005, BKAc, BKAb, BKAa, HB⟩ := hrel
   cases gk with
   | zero => exact absurd HA.out (by simp [plaitingref5_Read.l0])
   | succ k1 =>
    have H := HA.out
    clear HA
    simp only [plaitingref5_Read.l0] at H
    by_cases c42 : x9_1 < (tAd.size : Int)
    ·
     rw [if_pos c42] at H
     have c42b0 : decide (x9_1 < (tAd.size : Int)) = true := decide_eq_true c42
     clear c42
     by_cases c43 : 0 ≤ x9_1
     rotate_left
     ·
      rw [if_neg c43] at H
      exact absurd H (by simp)
     rw [if_pos c43] at H
     have c43b0 := eq_true c43
     have c43b1 : decide (0 ≤ x9_1) = true := decide_eq_true c43
     clear c43
     by_cases c44 : x9_1 ≤ (wrap64 (x9_1 + 10))
     rotate_left
     ·
      rw [if_neg c44] at H
      exact absurd H (by simp)
     rw [if_pos c44] at H
     have c44b0 := eq_true c44
     have c44b1 : decide (x9_1 ≤ (wrap64 (x9_1 + 10))) = true := decide_eq_true c44
     by_cases c45 : (wrap64 (x9_1 + 10)) ≤ (tAd.size : Int)
     rotate_left
     ·
      rw [if_neg c45] at H
      exact absurd H (by simp)
     rw [if_pos c45] at H
     have c45b0 := eq_true c45
     have c45b1 : decide ((wrap64 (x9_1 + 10)) ≤ (tAd.size : Int)) = true := decide_eq_true c45
     replace H := Option.bind_eq_some_iff.mp H
     obtain ⟨⟨tAp, tAq⟩, A460, H⟩ := H
     try dsimp only at H
     have A46 := Aside0.mk A460
     clear A460
     by_cases c47 : x72111005_1.length < 8796093022208
     rotate_left
     ·
      rw [if_neg c47] at H
      exact absurd H (by simp)
     rw [if_pos c47] at H
     have LMc47 := Aside0.mk c47
     clear c47
     obtain ⟨yAk, hyAk⟩ : ∃ y_ : List (S26), y_ = (x72111005_1 ++ [(⟨tAp, tAq⟩ : S26)]) := ⟨_, rfl⟩
     replace H : (plaitingref5_Read.l0 k1 tAd (wrap64 (x9_1 + 10)) a0_0 a0_1 a0_2 a0_3 a0_4 l0_5 tAf tAg tAh tAi tAj yAk) = some (r1, r2, r3, r4, r5, r6, r7) := by first | (rw [hyAk]; with_reducible exact H) | (have H2_ := (Option.bind_some _ _).symm.trans H; rw [hyAk]; with_reducible exact H2_) | (have H2_ := (Option.bind_some _ _).symm.trans H; with_reducible exact H2_) | with_reducible exact H | (rw [hyAk]; exact H) | exact H
     have NyAk := Aside0.mk hyAk
     clear hyAk
     have H' := Aside0.mk H
     clear H
     try go_wp2
     replace HO_Ae005 := Aside0.mk (Kd.R_drew HO_Ae005.out)
     replace BKAc := Aside0.mk (blk_drew BKAc.out)
     replace BKAb := Aside0.mk (blk_drew BKAb.out)
     replace BKAa := Aside0.mk (blk_drew BKAa.out)
     replace HB := Aside0.mk (below_drew1 HB.out)
     refine start_ (n := 12) (S := fun w' => w'.cell? ⟨gbAa, 0, none⟩ = some (.int .i64 tAf) ∧ w'.cell? ⟨gbAa, 1, none⟩ = some (.int .i64 tAg) ∧ w'.cell? ⟨gbAa, 2, none⟩ = some (.int .i64 tAh) ∧ w'.cell? ⟨gbAa, 3, none⟩ = some (.int .i64 tAi) ∧ w'.cell? ⟨gbAa, 4, none⟩ = some (.int .i64 tAj) ∧ w'.cell? ⟨gbAa, 5, none⟩ = some (uAe005)) (ds := [11]) #[false, false, false, false, false, false, false, false, false, false, false, false] (by kernel_rfl) rfl rfl ⟨bc_ BKAa 0, bc_ BKAa 1, bc_ BKAa 2, bc_ BKAa 3, bc_ BKAa 4, bc_ BKAa 5⟩ (fun hHeld => ?_); refine with_tabW plaitingref5_Read.tab12 plaitingref5_Read.bits12 (fun HT_ HW_ => ?_)
     generalize wr.drew = w48 at HO_Ae005 BKAc BKAb BKAa HB hHeld ⊢
     refine pq_ 0 54 HT_ ?_
     refine pq_ 2 56 HT_ ?_
     refine pq_ 3 57 HT_ ?_
     refine pq_ 4 58 HT_ ?_
     refine pq_ 5 59 HT_ ?_
     refine pq_ 6 60 HT_ ?_
     refine tq_ 1 55 HT_ HW_ hHeld ?_
     refine oq_ 7 61 HT_ (fun K hK => ?_)
     refine gs_ Try.func72 #[.string (tAd.extract (x9_1 : Int).toNat ((wrap64 (x9_1 + 10)) : Int).toNat)] ?_
     with_reducible refine (plaitingref5_read.calls k1 (tAd.extract (x9_1 : Int).toNat ((wrap64 (x9_1 + 10)) : Int).toNat) tAp tAq _ A46.out).mono ?_
     rintro e w49 ⟨rfl, hb⟩
     refine ⟨_, rfl, ?_⟩
     replace HO_Ae005 := Aside0.mk (Kd.R_below (pR_ HO_Ae005.out) hb)
     replace BKAc := bb_ BKAc hb
     replace BKAb := bb_ BKAb hb
     replace BKAa := bb_ BKAa hb
     replace HB := bs_ HB hb
     (try clear hb)
     (try clear hb2)
     (try clear hk)
     (try clear hi)
     refine hK.out _ _ ⟨bc_ BKAa 0, bc_ BKAa 1, bc_ BKAa 2, bc_ BKAa 3, bc_ BKAa 4, bc_ BKAa 5⟩ (fun hHeld => ?_)
     clear hK K
     refine nq_ 61 ?_
     refine oq_ 8 62 HT_ (fun K hK => ?_)
     refine value_ (w1 := ?_) (v := ?_) (by rfl) rfl ?_ ?_
     rotate_left 2
     ·
      go_simp
      constructor
      · rfl
      rfl
     refine hK.out _ _ ⟨(blk_cell (blk_alloc BKAa.out _) 0).trans rfl, (blk_cell (blk_alloc BKAa.out _) 1).trans rfl, (blk_cell (blk_alloc BKAa.out _) 2).trans rfl, (blk_cell (blk_alloc BKAa.out _) 3).trans rfl, (blk_cell (blk_alloc BKAa.out _) 4).trans rfl, (blk_cell (blk_alloc BKAa.out _) 5).trans rfl⟩ (fun hHeld => ?_)
     clear hK K
     refine nq_ 62 ?_
     refine oq_ 9 63 HT_ (fun K hK => ?_)
     refine Kd.R_append_step k26 (w0 := w) w.heap.size (by rfl) (.tmp 55) (.tmp 62) 27 26 (.agg #[(.int .i64 0), (.int .i64 0)]) 16 rfl Try.underlying27 info26 rfl (by decide) (by omega) uAe005 x72111005_1 (⟨tAp, tAq⟩ : S26) [.int .i64 tAp, .int .i64 tAq] (fun _ => True) (fun _ => False) rfl rfl ?aP (fun _ hk => hk.elim) ?aF ?aO ?aB ?aS ?aL ?_
     (case aP => exact k26_mkM _ _ _ (⟨tAp, tAq⟩ : S26))
     (case aB => exact (pH_ HB.out))
     (case aF => exact (fun _ _ => trivial))
     (case aO => exact (pR_ HO_Ae005.out))
     (case aS => exact (below_size (pH_ HB.out)))
     (case aL => have := LMc47.out; omega)
     intro vAs w50 ho hb hg hat
     rw [← NyAk.out] at ho
     have n0_ := Aside0.mk (blk_grown (g := gbAc) (o := .cells #[.int .i64 a0_0, .int .i64 a0_1, .int .i64 a0_2, .int .i64 a0_3, .int .i64 a0_4, .slice A0_5 l0_5.length c0_5] 24 (0, 0)) (pB_ BKAc.out) hg (Kd.R_ne HO_Ae005.out BKAc.out (by decide)))
     have n1_ := Aside0.mk (blk_grown (g := gbAb) (o := .cells #[.int .i64 0, .int .i64 0, .int .i64 0, .int .i64 0, .int .i64 0, .slice none 0 0] 29 (0, 0)) (pB_ BKAb.out) hg (Kd.R_ne HO_Ae005.out BKAb.out (by decide)))
     have n2_ := Aside0.mk (blk_grown (g := gbAa) (o := .cells #[.int .i64 tAf, .int .i64 tAg, .int .i64 tAh, .int .i64 tAi, .int .i64 tAj, uAe005] 29 (0, 0)) (pB_ BKAa.out) hg (Kd.R_ne HO_Ae005.out BKAa.out (by decide)))
     have n3_ := Aside0.mk (hb)
     have n4_ := Aside0.mk (ho)
     clear BKAc
     clear BKAb
     clear BKAa
     clear HB
     clear HO_Ae005
     have BKAc := n0_
     have BKAb := n1_
     have BKAa := n2_
     have HB := n3_
     have HOAr := n4_
     clear n0_ n1_ n2_ n3_ n4_
     clear ho hb hg hat
     obtain ⟨Ao51, co51, eo51⟩ := Kd.R_slice HOAr.out
     (first | subst eo51 | (injection eo51 with f1_ f2_ f3_; have f4_ := f1_.symm; have f5_ := f3_.symm; clear f1_ f2_ f3_; subst f4_; subst f5_))
     refine hK.out _ _ ⟨bc_ BKAa 0, bc_ BKAa 1, bc_ BKAa 2, bc_ BKAa 3, bc_ BKAa 4, bc_ BKAa 5⟩ (fun hHeld => ?_)
     clear hK K
     refine nq_ 63 ?_
     refine pq_ 10 64 HT_ ?_
     refine last_ (i := 11) (N := none) #[true, true, true, true, true, true, true, true, true, true, true, true] rfl rfl (one_of HT_.out (by kernel_rfl)) (by decide) (fun K hK => ?_)
     have hs52 : w50.cell? ⟨gbAa, 5, none⟩ = some (uAe005) := bc_ BKAa 5
     have hfs52 := blk_frozen BKAa.out 5
     have hns52_0 := NBAc_Aa.out
     have hns52_1 := NBAb_Aa.out
     have hms52_0 := NBAa_Ac.out
     have hms52_1 := NBAa_Ab.out
     refine skip_ (w1 := ?_) (by rfl) rfl ?_ ?_
     rotate_left
     ·
      go_simp
      rfl
     refine hK.out _ _ ?_
     clear hK K
     refine done_ (done_of HT_.out (by kernel_rfl)) ?_
     try go_wp2
     go_roundg k1
     case measure => have := HK1.out; omega
     case rel => exact ⟨(wrap64 (x9_1 + 10)), (yAk), (.slice Ao51 yAk.length co51), (by first | rfl | (simp; done) | (simp [*]; done)), H', ⟨by have := HK1.out; omega⟩, ⟨by (with_reducible repeat (first | apply Kd.R_alloc | apply Kd.R_drewN | apply Kd.R_drew)); exact Kd.R_mono (Kd.R_far (p := ⟨gbAa, 5, none⟩) (Kd.R_types HOAr.out BKAa.out (by decide)) (fun _ hk => hk.2) (.slice Ao51 yAk.length co51)) (fun _ hk => trivial)⟩, ⟨bF_ BKAc.out NBAc_Aa.out⟩, ⟨bF_ BKAb.out NBAb_Aa.out⟩, ⟨by (with_reducible repeat (first | refine blk_drewN ?_ _ | refine blk_drew ?_ | refine blk_alloc ?_ _)); refine blk_put (cs := #[.int .i64 tAf, .int .i64 tAg, .int .i64 tAh, .int .i64 tAi, .int .i64 tAj, uAe005]) ?_ 5 _ rfl; (with_reducible repeat (first | refine blk_drewN ?_ _ | refine blk_drew ?_ | refine blk_alloc ?_ _)); exact BKAa.out⟩, ⟨pH_ HB.out⟩⟩
    rw [if_neg c42] at H
    have c42b0 : decide (x9_1 < (tAd.size : Int)) = false := decide_eq_false c42
    clear c42
    replace H := Option.bind_eq_some_iff.mp H
    obtain ⟨tAm, A530, H⟩ := H
    try dsimp only at H
    have A53 := Aside0.mk A530
    clear A530
    by_cases c54 : tAm = 0
    ·
     rw [if_pos c54] at H
     have c54b0 : (tAm == 0) = true := beq_iff_eq.mpr c54
     have c54b1 : (tAm != 0) = false := bne_eq_false_iff_eq.mpr c54
     clear c54
     simp only [Option.some.injEq, Prod.mk.injEq] at H
     obtain ⟨rfl, rfl, rfl, rfl, rfl, rfl, rfl⟩ := H
     have hnb55 := NBAc_Ab.out
     have hnc55 := NBAb_Ac.out
     have hnb56 := NBAc_Aa.out
     have hnc56 := NBAa_Ac.out
     obtain ⟨hcz57_0, hcz57_1, hcz57_2, hcz57_3, hcz57_4, hcz57_5⟩ := c6_ BKAc
     obtain ⟨hfz57_0, hfz57_1, hfz57_2, hfz57_3, hfz57_4, hfz57_5⟩ := f6_ BKAc
     have hnb58 := NBAa_Ab.out
     have hnc58 := NBAb_Aa.out
     obtain ⟨hcz59_0, hcz59_1, hcz59_2, hcz59_3, hcz59_4, hcz59_5⟩ := c6_ BKAa
     obtain ⟨hfz59_0, hfz59_1, hfz59_2, hfz59_3, hfz59_4, hfz59_5⟩ := f6_ BKAa
     obtain ⟨Ao60, co60, eo60⟩ := Kd.R_slice HO_Ae005.out
     subst eo60
     go_wp2_with (first | ((with_reducible refine gate_callee (f := 23) rfl ?_); refine gL_ 67 Try.func23 #[.agg #[.int .i64 a0_0, .int .i64 a0_1, .int .i64 a0_2, .int .i64 a0_3, .int .i64 a0_4, .slice A0_5 l0_5.length c0_5], .agg #[.int .i64 tAf, .int .i64 tAg, .int .i64 tAh, .int .i64 tAi, .int .i64 tAj, .slice Ao60 x72111005_1.length co60]] ?_; (with_reducible refine (plaitingref5_Check.calls k1 a0_0 a0_1 a0_2 a0_3 a0_4 _ _ l0_5 tAf tAg tAh tAi tAj _ _ x72111005_1 tAm _ ?side1 ?side2 ?side3 ?side4 A53.out).mono ?_); (case side1 => exact cC_ (Kd.C_below HR0_5.out HB.out)); (case side2 => exact HC0_5.out); (case side3 => exact cC_ (Kd.R_reads' HO_Ae005.out).2.2); (case side4 => exact (Kd.R_reads' HO_Ae005.out).2.1); rintro e w61 ⟨rfl, hb⟩; refine ⟨_, rfl, ?_⟩; replace HO_Ae005 := Aside0.mk (Kd.R_below (pR_ HO_Ae005.out) hb); replace BKAc := bb_ BKAc hb; replace BKAb := bb_ BKAb hb; replace BKAa := bb_ BKAa hb; replace HB := bs_ HB hb; (try clear hb); (try clear hb2); (try clear hk); (try clear hi); obtain ⟨hcz62_0, hcz62_1, hcz62_2, hcz62_3, hcz62_4, hcz62_5⟩ := c6_ BKAa; obtain ⟨hfz62_0, hfz62_1, hfz62_2, hfz62_3, hfz62_4, hfz62_5⟩ := f6_ BKAa; obtain ⟨hcz63_0, hcz63_1, hcz63_2, hcz63_3, hcz63_4, hcz63_5⟩ := c6_ BKAb; obtain ⟨hfz63_0, hfz63_1, hfz63_2, hfz63_3, hfz63_4, hfz63_5⟩ := f6_ BKAb))
     refine bodyPost_ret (results_ct rfl _ _ gbAb 29 #[.int .i64 tAf, .int .i64 tAg, .int .i64 tAh, .int .i64 tAi, .int .i64 tAj, .slice Ao60 x72111005_1.length co60] (0, 0) _ rfl (by (with_reducible repeat (first | refine blk_drewN ?_ _ | refine blk_drew ?_ | refine blk_alloc ?_ _)); refine blk_put (cs := #[.int .i64 tAf, .int .i64 tAg, .int .i64 tAh, .int .i64 tAi, .int .i64 tAj, .slice none 0 0]) ?_ 5 _ rfl; (with_reducible repeat (first | refine blk_drewN ?_ _ | refine blk_drew ?_ | refine blk_alloc ?_ _)); refine blk_put (cs := #[.int .i64 tAf, .int .i64 tAg, .int .i64 tAh, .int .i64 tAi, .int .i64 0, .slice none 0 0]) ?_ 4 _ rfl; (with_reducible repeat (first | refine blk_drewN ?_ _ | refine blk_drew ?_ | refine blk_alloc ?_ _)); refine blk_put (cs := #[.int .i64 tAf, .int .i64 tAg, .int .i64 tAh, .int .i64 0, .int .i64 0, .slice none 0 0]) ?_ 3 _ rfl; (with_reducible repeat (first | refine blk_drewN ?_ _ | refine blk_drew ?_ | refine blk_alloc ?_ _)); refine blk_put (cs := #[.int .i64 tAf, .int .i64 tAg, .int .i64 0, .int .i64 0, .int .i64 0, .slice none 0 0]) ?_ 2 _ rfl; (with_reducible repeat (first | refine blk_drewN ?_ _ | refine blk_drew ?_ | refine blk_alloc ?_ _)); refine blk_put (cs := #[.int .i64 tAf, .int .i64 0, .int .i64 0, .int .i64 0, .int .i64 0, .slice none 0 0]) ?_ 1 _ rfl; (with_reducible repeat (first | refine blk_drewN ?_ _ | refine blk_drew ?_ | refine blk_alloc ?_ _)); refine blk_put (cs := #[.int .i64 0, .int .i64 0, .int .i64 0, .int .i64 0, .int .i64 0, .slice none 0 0]) ?_ 0 _ rfl; (with_reducible repeat (first | refine blk_drewN ?_ _ | refine blk_drew ?_ | refine blk_alloc ?_ _)); exact BKAb.out) Try.underlying29 rfl (by kernel_rfl)) rfl ?_
     exact ⟨_, by first | rfl | (simp [errW_none, errW_some] <;> rfl) | (simp [*, errW_none, errW_some] <;> rfl), by (with_reducible repeat (first | apply Kd.R_alloc | apply Kd.R_drewN | apply Kd.R_drew)); exact Kd.R_mono (Kd.R_far (p := ⟨gbAb, 5, none⟩) (Kd.R_far (p := ⟨gbAb, 4, none⟩) (Kd.R_far (p := ⟨gbAb, 3, none⟩) (Kd.R_far (p := ⟨gbAb, 2, none⟩) (Kd.R_far (p := ⟨gbAb, 1, none⟩) (Kd.R_far (p := ⟨gbAb, 0, none⟩) (Kd.R_types HO_Ae005.out BKAb.out (by decide)) (fun _ hk => hk.2) (.int .i64 tAf)) (fun _ hk => hk.2) (.int .i64 tAg)) (fun _ hk => hk.2) (.int .i64 tAh)) (fun _ hk => hk.2) (.int .i64 tAi)) (fun _ hk => hk.2) (.int .i64 tAj)) (fun _ hk => hk.2) (.slice Ao60 x72111005_1.length co60)) (fun _ hk => trivial), pH_ HB.out⟩
    rw [if_neg c54] at H
    have c54b0 : (tAm == 0) = false := beq_eq_false_iff_ne.mpr c54
    have c54b1 : (tAm != 0) = true := bne_iff_ne.mpr c54
    simp only [Option.some.injEq, Prod.mk.injEq] at H
    obtain ⟨rfl, rfl, rfl, rfl, rfl, rfl, rfl⟩ := H
    have hnb64 := NBAc_Ab.out
    have hnc64 := NBAb_Ac.out
    have hnb65 := NBAc_Aa.out
    have hnc65 := NBAa_Ac.out
    obtain ⟨hcz66_0, hcz66_1, hcz66_2, hcz66_3, hcz66_4, hcz66_5⟩ := c6_ BKAc
    obtain ⟨hfz66_0, hfz66_1, hfz66_2, hfz66_3, hfz66_4, hfz66_5⟩ := f6_ BKAc
    have hnb67 := NBAa_Ab.out
    have hnc67 := NBAb_Aa.out
    obtain ⟨hcz68_0, hcz68_1, hcz68_2, hcz68_3, hcz68_4, hcz68_5⟩ := c6_ BKAa
    obtain ⟨hfz68_0, hfz68_1, hfz68_2, hfz68_3, hfz68_4, hfz68_5⟩ := f6_ BKAa
    obtain ⟨Ao69, co69, eo69⟩ := Kd.R_slice HO_Ae005.out
    subst eo69
    go_wp2_with (first | ((with_reducible refine gate_callee (f := 23) rfl ?_); refine gL_ 67 Try.func23 #[.agg #[.int .i64 a0_0, .int .i64 a0_1, .int .i64 a0_2, .int .i64 a0_3, .int .i64 a0_4, .slice A0_5 l0_5.length c0_5], .agg #[.int .i64 tAf, .int .i64 tAg, .int .i64 tAh, .int .i64 tAi, .int .i64 tAj, .slice Ao69 x72111005_1.length co69]] ?_; (with_reducible refine (plaitingref5_Check.calls k1 a0_0 a0_1 a0_2 a0_3 a0_4 _ _ l0_5 tAf tAg tAh tAi tAj _ _ x72111005_1 tAm _ ?side1 ?side2 ?side3 ?side4 A53.out).mono ?_); (case side1 => exact cC_ (Kd.C_below HR0_5.out HB.out)); (case side2 => exact HC0_5.out); (case side3 => exact cC_ (Kd.R_reads' HO_Ae005.out).2.2); (case side4 => exact (Kd.R_reads' HO_Ae005.out).2.1); rintro e w70 ⟨rfl, hb⟩; refine ⟨_, rfl, ?_⟩; replace HO_Ae005 := Aside0.mk (Kd.R_below (pR_ HO_Ae005.out) hb); replace BKAc := bb_ BKAc hb; replace BKAb := bb_ BKAb hb; replace BKAa := bb_ BKAa hb; replace HB := bs_ HB hb; (try clear hb); (try clear hb2); (try clear hk); (try clear hi); obtain ⟨hcz71_0, hcz71_1, hcz71_2, hcz71_3, hcz71_4, hcz71_5⟩ := c6_ BKAb; obtain ⟨hfz71_0, hfz71_1, hfz71_2, hfz71_3, hfz71_4, hfz71_5⟩ := f6_ BKAb))
    refine bodyPost_ret (results_ct rfl _ _ gbAb 29 #[.int .i64 0, .int .i64 0, .int .i64 0, .int .i64 0, .int .i64 0, .slice none 0 0] (0, 0) _ rfl (by (with_reducible repeat (first | refine blk_drewN ?_ _ | refine blk_drew ?_ | refine blk_alloc ?_ _)); refine blk_put (cs := #[.int .i64 0, .int .i64 0, .int .i64 0, .int .i64 0, .int .i64 0, .slice none 0 0]) ?_ 5 _ rfl; (with_reducible repeat (first | refine blk_drewN ?_ _ | refine blk_drew ?_ | refine blk_alloc ?_ _)); refine blk_put (cs := #[.int .i64 0, .int .i64 0, .int .i64 0, .int .i64 0, .int .i64 0, .slice none 0 0]) ?_ 4 _ rfl; (with_reducible repeat (first | refine blk_drewN ?_ _ | refine blk_drew ?_ | refine blk_alloc ?_ _)); refine blk_put (cs := #[.int .i64 0, .int .i64 0, .int .i64 0, .int .i64 0, .int .i64 0, .slice none 0 0]) ?_ 3 _ rfl; (with_reducible repeat (first | refine blk_drewN ?_ _ | refine blk_drew ?_ | refine blk_alloc ?_ _)); refine blk_put (cs := #[.int .i64 0, .int .i64 0, .int .i64 0, .int .i64 0, .int .i64 0, .slice none 0 0]) ?_ 2 _ rfl; (with_reducible repeat (first | refine blk_drewN ?_ _ | refine blk_drew ?_ | refine blk_alloc ?_ _)); refine blk_put (cs := #[.int .i64 0, .int .i64 0, .int .i64 0, .int .i64 0, .int .i64 0, .slice none 0 0]) ?_ 1 _ rfl; (with_reducible repeat (first | refine blk_drewN ?_ _ | refine blk_drew ?_ | refine blk_alloc ?_ _)); refine blk_put (cs := #[.int .i64 0, .int .i64 0, .int .i64 0, .int .i64 0, .int .i64 0, .slice none 0 0]) ?_ 0 _ rfl; (with_reducible repeat (first | refine blk_drewN ?_ _ | refine blk_drew ?_ | refine blk_alloc ?_ _)); exact BKAb.out) Try.underlying29 rfl (by kernel_rfl)) rfl ?_
    exact ⟨_, by first | rfl | (simp [errW_none, errW_some] <;> rfl) | (simp [*, errW_none, errW_some] <;> rfl), by first | exact Kd.R_nil _ _ _ _ _ | exact Kd.N_nil _ _ _ _ _ | exact Kd.V_nil _ _ _ _ _ | exact Kd.Q_nil _ _ _ _ _ | exact Kd.S_nil _ _ _ _ _, pH_ HB.out⟩
 rw [if_neg c23] at H
 have c23b0 : ((wrap64 ((tAd.size : Int) - 34)) == (wrap64 (10 * tAe))) = false := beq_eq_false_iff_ne.mpr c23
 have c23b1 : ((wrap64 ((tAd.size : Int) - 34)) != (wrap64 (10 * tAe))) = true := bne_iff_ne.mpr c23
 simp only [Option.some.injEq, Prod.mk.injEq] at H
 obtain ⟨rfl, rfl, rfl, rfl, rfl, rfl, rfl⟩ := H
 go_enter Try.func36, Try.ntmps36
 try go_wp2_with (first | ((with_reducible refine gate_dst (N := 2) rfl ?_); refine be_ 2 #[.int .i64 a0_0, .int .i64 a0_1, .int .i64 a0_2, .int .i64 a0_3, .int .i64 a0_4, .slice A0_5 l0_5.length c0_5] 24 ?_; intro gbAc hg w72 hbox hb; have BKAc := Aside0.mk (hbox); have GWAc := Aside0.mk ((by rw [hg]; exact (below_size (pH_ HB.out)) : w.heap.size ≤ gbAc)); have GEAc := Aside0.mk ((by rw [hg]; exact (below_size (pH_ HB.out)) : w.heap.size ≤ gbAc)); replace HB := bs_ HB hb; clear hb hbox hg) | ((with_reducible refine gate_dst (N := 4) rfl ?_); refine be_ 4 #[.int .i64 0, .int .i64 0, .int .i64 0, .int .i64 0, .int .i64 0, .slice none 0 0] 29 ?_; intro gbAb hg w73 hbox hb; have BKAb := Aside0.mk (hbox); have GWAb := Aside0.mk ((by rw [hg]; exact (below_size (pH_ HB.out)) : w.heap.size ≤ gbAb)); have GEAb := Aside0.mk ((by rw [hg]; exact (below_size (pH_ HB.out)) : w.heap.size ≤ gbAb)); have NBAc_Ab := Aside0.mk (ltB_ hg BKAc.out); have NBAb_Ac := Aside0.mk (ltB_ hg BKAc.out).symm; replace BKAc := bb_ BKAc hb; replace HB := bs_ HB hb; clear hb hbox hg) | ((with_reducible refine gate_callee (f := 70) rfl ?_); refine gL_ 12 Try.func70 #[.string a1] ?_; (with_reducible refine (plaitingref2_Open.calls k a1 tAd tAn _ A3.out).mono ?_); rintro e w' ⟨rfl, ⟨nd, rfl⟩⟩; refine ⟨_, rfl, ?_⟩; (try (rw [drewN_self w73]; generalize hq_ : World.drewN w73 _ = w73; have n0_ : Aside0 (w73.heap[gbAc]? = some (.cells #[.int .i64 a0_0, .int .i64 a0_1, .int .i64 a0_2, .int .i64 a0_3, .int .i64 a0_4, .slice A0_5 l0_5.length c0_5] 24 (0, 0))) := ⟨by rw [← hq_]; exact (pB_ BKAc.out)⟩; have n1_ : Aside0 (w73.heap[gbAb]? = some (.cells #[.int .i64 0, .int .i64 0, .int .i64 0, .int .i64 0, .int .i64 0, .slice none 0 0] 29 (0, 0))) := ⟨by rw [← hq_]; exact (pB_ BKAb.out)⟩; have n2_ : Aside0 (Below w.heap.size w w73) := ⟨by rw [← hq_]; exact (pH_ HB.out)⟩; clear BKAc BKAb HB hq_; have BKAc := n0_; have BKAb := n1_; have HB := n2_; clear n0_ n1_ n2_))))
 replace BKAc := Aside0.mk (blk_drew BKAc.out)
 replace BKAb := Aside0.mk (blk_drew BKAb.out)
 replace HB := Aside0.mk (below_drew1 HB.out)
 refine start_ (n := 15) (S := fun w' => True) (ds := []) #[false, false, false, false, false, false, false, false, false, false, false, false, false, false, false] (by kernel_rfl) rfl rfl trivial (fun hHeld => ?_); refine with_tabW plaitingref5_Read.tab6 plaitingref5_Read.bits6 (fun HT_ HW_ => ?_)
 generalize w73.drew = w74 at BKAc BKAb HB hHeld ⊢
 refine pq_ 0 23 HT_ ?_
 refine pq_ 1 24 HT_ ?_
 refine pq_ 3 26 HT_ ?_
 refine pq_ 4 27 HT_ ?_
 refine pq_ 6 29 HT_ ?_
 refine pq_ 7 30 HT_ ?_
 refine pq_ 9 32 HT_ ?_
 refine pq_ 10 33 HT_ ?_
 refine join_ (σ := Nat) 1 #[true, true, true, true, true, true, true, true, true, true, true, true, true, true, false] (fun s_ => [(25, .int .i64 tAf), (28, .int .i64 tAg), (31, .int .i64 tAh), (34, .agg #[.int .i64 tAi, .int .i64 tAj]), (8, .pointer (some ⟨s_, 0, none⟩)), (35, .agg #[.int .i64 tAf, .int .i64 tAg, .int .i64 tAh, .int .i64 tAi, .int .i64 tAj, .slice none 0 0])]) (fun s_ w' => (w'.heap[gbAc]? = some (.cells #[.int .i64 a0_0, .int .i64 a0_1, .int .i64 a0_2, .int .i64 a0_3, .int .i64 a0_4, .slice A0_5 l0_5.length c0_5] 24 (0, 0))) ∧ (w'.heap[gbAb]? = some (.cells #[.int .i64 0, .int .i64 0, .int .i64 0, .int .i64 0, .int .i64 0, .slice none 0 0] 29 (0, 0))) ∧ (w'.heap[s_]? = some (.cells #[.int .i64 0, .int .i64 0, .int .i64 0, .int .i64 0, .int .i64 0, .slice none 0 0] 29 (0, 0))) ∧ (w.heap.size ≤ s_) ∧ (w.heap.size ≤ s_) ∧ (gbAc ≠ s_) ∧ (s_ ≠ gbAc) ∧ (gbAb ≠ s_) ∧ (s_ ≠ gbAb) ∧ (Below w.heap.size w w')) ?_ ?_
 rotate_left
 ·
  intro hJ2_5_8_11_13
  refine join_ (σ := Unit) 2 #[true, true, true, true, true, true, true, true, true, true, true, true, true, false, false] (fun s_ => [(25, .int .i64 tAf), (28, .int .i64 tAg), (31, .int .i64 tAh), (34, .agg #[.int .i64 tAi, .int .i64 tAj]), (35, .agg #[.int .i64 tAf, .int .i64 tAg, .int .i64 tAh, .int .i64 tAi, .int .i64 tAj, .slice none 0 0])]) (fun s_ w' => (w'.heap[gbAc]? = some (.cells #[.int .i64 a0_0, .int .i64 a0_1, .int .i64 a0_2, .int .i64 a0_3, .int .i64 a0_4, .slice A0_5 l0_5.length c0_5] 24 (0, 0))) ∧ (w'.heap[gbAb]? = some (.cells #[.int .i64 0, .int .i64 0, .int .i64 0, .int .i64 0, .int .i64 0, .slice none 0 0] 29 (0, 0))) ∧ (Below w.heap.size w w')) ?_ ?_
  rotate_left
  ·
   intro hJ2_5_8_11
   refine join_ (σ := Nat) 3 #[true, true, true, true, true, true, true, true, true, true, true, false, false, true, false] (fun s_ => [(25, .int .i64 tAf), (28, .int .i64 tAg), (31, .int .i64 tAh), (8, .pointer (some ⟨s_, 0, none⟩))]) (fun s_ w' => (w'.heap[gbAc]? = some (.cells #[.int .i64 a0_0, .int .i64 a0_1, .int .i64 a0_2, .int .i64 a0_3, .int .i64 a0_4, .slice A0_5 l0_5.length c0_5] 24 (0, 0))) ∧ (w'.heap[gbAb]? = some (.cells #[.int .i64 0, .int .i64 0, .int .i64 0, .int .i64 0, .int .i64 0, .slice none 0 0] 29 (0, 0))) ∧ (w'.heap[s_]? = some (.cells #[.int .i64 0, .int .i64 0, .int .i64 0, .int .i64 0, .int .i64 0, .slice none 0 0] 29 (0, 0))) ∧ (w.heap.size ≤ s_) ∧ (w.heap.size ≤ s_) ∧ (gbAc ≠ s_) ∧ (s_ ≠ gbAc) ∧ (gbAb ≠ s_) ∧ (s_ ≠ gbAb) ∧ (Below w.heap.size w w')) ?_ ?_
   rotate_left
   ·
    intro hJ2_5_8_13
    refine join_ (σ := Unit) 4 #[true, true, true, true, true, true, true, true, true, true, true, false, false, false, false] (fun s_ => [(25, .int .i64 tAf), (28, .int .i64 tAg), (31, .int .i64 tAh)]) (fun s_ w' => (w'.heap[gbAc]? = some (.cells #[.int .i64 a0_0, .int .i64 a0_1, .int .i64 a0_2, .int .i64 a0_3, .int .i64 a0_4, .slice A0_5 l0_5.length c0_5] 24 (0, 0))) ∧ (w'.heap[gbAb]? = some (.cells #[.int .i64 0, .int .i64 0, .int .i64 0, .int .i64 0, .int .i64 0, .slice none 0 0] 29 (0, 0))) ∧ (Below w.heap.size w w')) ?_ ?_
    rotate_left
    ·
     intro hJ2_5_8
     refine join_ (σ := Nat) 4 #[true, true, true, true, true, true, true, true, false, true, true, false, false, true, false] (fun s_ => [(25, .int .i64 tAf), (28, .int .i64 tAg), (8, .pointer (some ⟨s_, 0, none⟩))]) (fun s_ w' => (w'.heap[gbAc]? = some (.cells #[.int .i64 a0_0, .int .i64 a0_1, .int .i64 a0_2, .int .i64 a0_3, .int .i64 a0_4, .slice A0_5 l0_5.length c0_5] 24 (0, 0))) ∧ (w'.heap[gbAb]? = some (.cells #[.int .i64 0, .int .i64 0, .int .i64 0, .int .i64 0, .int .i64 0, .slice none 0 0] 29 (0, 0))) ∧ (w'.heap[s_]? = some (.cells #[.int .i64 0, .int .i64 0, .int .i64 0, .int .i64 0, .int .i64 0, .slice none 0 0] 29 (0, 0))) ∧ (w.heap.size ≤ s_) ∧ (w.heap.size ≤ s_) ∧ (gbAc ≠ s_) ∧ (s_ ≠ gbAc) ∧ (gbAb ≠ s_) ∧ (s_ ≠ gbAb) ∧ (Below w.heap.size w w')) ?_ ?_
     rotate_left
     ·
      intro hJ2_5_13
      refine join_ (σ := Unit) 5 #[true, true, true, true, true, true, true, true, false, true, true, false, false, false, false] (fun s_ => [(25, .int .i64 tAf), (28, .int .i64 tAg)]) (fun s_ w' => (w'.heap[gbAc]? = some (.cells #[.int .i64 a0_0, .int .i64 a0_1, .int .i64 a0_2, .int .i64 a0_3, .int .i64 a0_4, .slice A0_5 l0_5.length c0_5] 24 (0, 0))) ∧ (w'.heap[gbAb]? = some (.cells #[.int .i64 0, .int .i64 0, .int .i64 0, .int .i64 0, .int .i64 0, .slice none 0 0] 29 (0, 0))) ∧ (Below w.heap.size w w')) ?_ ?_
      rotate_left
      ·
       intro hJ2_5
       refine join_ (σ := Nat) 5 #[true, true, true, true, true, false, true, true, false, true, true, false, false, true, false] (fun s_ => [(25, .int .i64 tAf), (8, .pointer (some ⟨s_, 0, none⟩))]) (fun s_ w' => (w'.heap[gbAc]? = some (.cells #[.int .i64 a0_0, .int .i64 a0_1, .int .i64 a0_2, .int .i64 a0_3, .int .i64 a0_4, .slice A0_5 l0_5.length c0_5] 24 (0, 0))) ∧ (w'.heap[gbAb]? = some (.cells #[.int .i64 0, .int .i64 0, .int .i64 0, .int .i64 0, .int .i64 0, .slice none 0 0] 29 (0, 0))) ∧ (w'.heap[s_]? = some (.cells #[.int .i64 0, .int .i64 0, .int .i64 0, .int .i64 0, .int .i64 0, .slice none 0 0] 29 (0, 0))) ∧ (w.heap.size ≤ s_) ∧ (w.heap.size ≤ s_) ∧ (gbAc ≠ s_) ∧ (s_ ≠ gbAc) ∧ (gbAb ≠ s_) ∧ (s_ ≠ gbAb) ∧ (Below w.heap.size w w')) ?_ ?_
       rotate_left
       ·
        intro hJ2_13
        refine join_ (σ := Unit) 6 #[true, true, true, true, true, false, true, true, false, true, true, false, false, false, false] (fun s_ => [(25, .int .i64 tAf)]) (fun s_ w' => (w'.heap[gbAc]? = some (.cells #[.int .i64 a0_0, .int .i64 a0_1, .int .i64 a0_2, .int .i64 a0_3, .int .i64 a0_4, .slice A0_5 l0_5.length c0_5] 24 (0, 0))) ∧ (w'.heap[gbAb]? = some (.cells #[.int .i64 0, .int .i64 0, .int .i64 0, .int .i64 0, .int .i64 0, .slice none 0 0] 29 (0, 0))) ∧ (Below w.heap.size w w')) ?_ ?_
        rotate_left
        ·
         intro hJ2
         refine join_ (σ := Nat) 6 #[true, true, false, true, true, false, true, true, false, true, true, false, false, true, false] (fun s_ => [(8, .pointer (some ⟨s_, 0, none⟩))]) (fun s_ w' => (w'.heap[gbAc]? = some (.cells #[.int .i64 a0_0, .int .i64 a0_1, .int .i64 a0_2, .int .i64 a0_3, .int .i64 a0_4, .slice A0_5 l0_5.length c0_5] 24 (0, 0))) ∧ (w'.heap[gbAb]? = some (.cells #[.int .i64 0, .int .i64 0, .int .i64 0, .int .i64 0, .int .i64 0, .slice none 0 0] 29 (0, 0))) ∧ (w'.heap[s_]? = some (.cells #[.int .i64 0, .int .i64 0, .int .i64 0, .int .i64 0, .int .i64 0, .slice none 0 0] 29 (0, 0))) ∧ (w.heap.size ≤ s_) ∧ (w.heap.size ≤ s_) ∧ (gbAc ≠ s_) ∧ (s_ ≠ gbAc) ∧ (gbAb ≠ s_) ∧ (s_ ≠ gbAb) ∧ (Below w.heap.size w w')) ?_ ?_
         rotate_left
         ·
          intro hJ13
          refine two_ (i := 2) (j := 13) (Ni := some 25) (Nj := some 8) #[true, true, true, true, true, false, true, true, false, true, true, false, false, false, false] #[true, true, false, true, true, false, true, true, false, true, true, false, false, true, false] rfl rfl rfl rfl (two_of HT_.out (by kernel_rfl)) (by decide) (by decide) (fun K hK => ?_) (fun K hK => ?_)
          ·
           skip
           refine gs_ Try.func71 #[.string (tAd.extract 0 2)] ?_
           with_reducible refine (plaitingref5_number.calls k (tAd.extract 0 2) tAf _ A12.out).mono ?_
           rintro e w' ⟨rfl, ⟨nd, rfl⟩⟩
           refine ⟨_, rfl, ?_⟩
           refine hK.out _ _ trivial (fun hHeld => ?_)
           clear hK K
           refine nq_ 25 ?_
           exact norm2_ (hJ2 () _ ⟨(pB_ BKAc.out), (pB_ BKAb.out), (pH_ HB.out)⟩)
          skip
          refine box_step ?hg (N := 8) ?hd (cs := #[.int .i64 0, .int .i64 0, .int .i64 0, .int .i64 0, .int .i64 0, .slice none 0 0]) (t := 29) ?hr ?_; (case hd => rfl); (case hg => rfl); (case hr => first | (go_simp; done) | (go_simp; rfl))
          intro gbAa hg w75 hbox hb
          have BKAa := Aside0.mk (hbox)
          have GWAa := Aside0.mk ((by rw [hg]; exact (below_size (pH_ HB.out)) : w.heap.size ≤ gbAa))
          have GEAa := Aside0.mk ((by rw [hg]; exact (below_size (pH_ HB.out)) : w.heap.size ≤ gbAa))
          have NBAc_Aa := Aside0.mk (ltB_ hg BKAc.out)
          have NBAa_Ac := Aside0.mk (ltB_ hg BKAc.out).symm
          have NBAb_Aa := Aside0.mk (ltB_ hg BKAb.out)
          have NBAa_Ab := Aside0.mk (ltB_ hg BKAb.out).symm
          replace BKAc := bb_ BKAc hb
          replace BKAb := bb_ BKAb hb
          replace HB := bs_ HB hb
          clear hb hbox hg
          refine hK.out _ _ trivial (fun hHeld => ?_)
          clear hK K
          refine nq_ 8 ?_
          exact norm2_ (hJ13 (gbAa) _ ⟨(pB_ BKAc.out), (pB_ BKAb.out), (pB_ BKAa.out), GWAa.out, GEAa.out, NBAc_Aa.out, NBAa_Ac.out, NBAb_Aa.out, NBAa_Ab.out, (pH_ HB.out)⟩)
         skip
         rintro gbAa w76 ⟨h0_, h1_, h2_, h3_, h4_, h5_, h6_, h7_, h8_, h9_⟩
         have n0_ : Aside0 (w76.heap[gbAc]? = some (.cells #[.int .i64 a0_0, .int .i64 a0_1, .int .i64 a0_2, .int .i64 a0_3, .int .i64 a0_4, .slice A0_5 l0_5.length c0_5] 24 (0, 0))) := ⟨h0_⟩
         have n1_ : Aside0 (w76.heap[gbAb]? = some (.cells #[.int .i64 0, .int .i64 0, .int .i64 0, .int .i64 0, .int .i64 0, .slice none 0 0] 29 (0, 0))) := ⟨h1_⟩
         have n2_ : Aside0 (w76.heap[gbAa]? = some (.cells #[.int .i64 0, .int .i64 0, .int .i64 0, .int .i64 0, .int .i64 0, .slice none 0 0] 29 (0, 0))) := ⟨h2_⟩
         have n3_ : Aside0 (w.heap.size ≤ gbAa) := ⟨h3_⟩
         have n4_ : Aside0 (w.heap.size ≤ gbAa) := ⟨h4_⟩
         have n5_ : Aside0 (gbAc ≠ gbAa) := ⟨h5_⟩
         have n6_ : Aside0 (gbAa ≠ gbAc) := ⟨h6_⟩
         have n7_ : Aside0 (gbAb ≠ gbAa) := ⟨h7_⟩
         have n8_ : Aside0 (gbAa ≠ gbAb) := ⟨h8_⟩
         have n9_ : Aside0 (Below w.heap.size w w76) := ⟨h9_⟩
         clear BKAc
         clear BKAb
         clear HB
         clear h0_ h1_ h2_ h3_ h4_ h5_ h6_ h7_ h8_ h9_
         have BKAc := n0_
         have BKAb := n1_
         have BKAa := n2_
         have GWAa := n3_
         have GEAa := n4_
         have NBAc_Aa := n5_
         have NBAa_Ac := n6_
         have NBAb_Aa := n7_
         have NBAa_Ab := n8_
         have HB := n9_
         clear n0_ n1_ n2_ n3_ n4_ n5_ n6_ n7_ n8_ n9_
         have hHeld := trivial
         refine norm_ (a' := ?_) ?_ ?_
         rotate_left
         ·
          simp only [putAll, Act.put, List.setIfInBounds_toArray, List.set_cons_zero, List.set_cons_succ]
          rfl
         refine oq_ 2 25 HT_ (fun K hK => ?_)
         refine gs_ Try.func71 #[.string (tAd.extract 0 2)] ?_
         with_reducible refine (plaitingref5_number.calls k (tAd.extract 0 2) tAf _ A12.out).mono ?_
         rintro e w' ⟨rfl, ⟨nd, rfl⟩⟩
         refine ⟨_, rfl, ?_⟩
         refine hK.out _ _ trivial (fun hHeld => ?_)
         clear hK K
         refine nq_ 25 ?_
         exact norm2_ (hJ2_13 (gbAa) _ ⟨(pB_ BKAc.out), (pB_ BKAb.out), (pB_ BKAa.out), GWAa.out, GEAa.out, NBAc_Aa.out, NBAa_Ac.out, NBAb_Aa.out, NBAa_Ab.out, (pH_ HB.out)⟩)
        skip
        rintro _ w75 ⟨h0_, h1_, h2_⟩
        have n0_ : Aside0 (w75.heap[gbAc]? = some (.cells #[.int .i64 a0_0, .int .i64 a0_1, .int .i64 a0_2, .int .i64 a0_3, .int .i64 a0_4, .slice A0_5 l0_5.length c0_5] 24 (0, 0))) := ⟨h0_⟩
        have n1_ : Aside0 (w75.heap[gbAb]? = some (.cells #[.int .i64 0, .int .i64 0, .int .i64 0, .int .i64 0, .int .i64 0, .slice none 0 0] 29 (0, 0))) := ⟨h1_⟩
        have n2_ : Aside0 (Below w.heap.size w w75) := ⟨h2_⟩
        clear BKAc
        clear BKAb
        clear HB
        clear h0_ h1_ h2_
        have BKAc := n0_
        have BKAb := n1_
        have HB := n2_
        clear n0_ n1_ n2_
        have hHeld := trivial
        refine norm_ (a' := ?_) ?_ ?_
        rotate_left
        ·
         simp only [putAll, Act.put, List.setIfInBounds_toArray, List.set_cons_zero, List.set_cons_succ]
         rfl
        refine two_ (i := 5) (j := 13) (Ni := some 28) (Nj := some 8) #[true, true, true, true, true, true, true, true, false, true, true, false, false, false, false] #[true, true, true, true, true, false, true, true, false, true, true, false, false, true, false] rfl rfl rfl rfl (two_of HT_.out (by kernel_rfl)) (by decide) (by decide) (fun K hK => ?_) (fun K hK => ?_)
        ·
         skip
         refine gs_ Try.func71 #[.string (tAd.extract 2 18)] ?_
         with_reducible refine (plaitingref5_number.calls k (tAd.extract 2 18) tAg _ A15.out).mono ?_
         rintro e w' ⟨rfl, ⟨nd, rfl⟩⟩
         refine ⟨_, rfl, ?_⟩
         refine hK.out _ _ trivial (fun hHeld => ?_)
         clear hK K
         refine nq_ 28 ?_
         exact norm2_ (hJ2_5 () _ ⟨(pB_ BKAc.out), (pB_ BKAb.out), (pH_ HB.out)⟩)
        skip
        refine box_step ?hg (N := 8) ?hd (cs := #[.int .i64 0, .int .i64 0, .int .i64 0, .int .i64 0, .int .i64 0, .slice none 0 0]) (t := 29) ?hr ?_; (case hd => rfl); (case hg => rfl); (case hr => first | (go_simp; done) | (go_simp; rfl))
        intro gbAa hg w76 hbox hb
        have BKAa := Aside0.mk (hbox)
        have GWAa := Aside0.mk ((by rw [hg]; exact (below_size (pH_ HB.out)) : w.heap.size ≤ gbAa))
        have GEAa := Aside0.mk ((by rw [hg]; exact (below_size (pH_ HB.out)) : w.heap.size ≤ gbAa))
        have NBAc_Aa := Aside0.mk (ltB_ hg BKAc.out)
        have NBAa_Ac := Aside0.mk (ltB_ hg BKAc.out).symm
        have NBAb_Aa := Aside0.mk (ltB_ hg BKAb.out)
        have NBAa_Ab := Aside0.mk (ltB_ hg BKAb.out).symm
        replace BKAc := bb_ BKAc hb
        replace BKAb := bb_ BKAb hb
        replace HB := bs_ HB hb
        clear hb hbox hg
        refine hK.out _ _ trivial (fun hHeld => ?_)
        clear hK K
        refine nq_ 8 ?_
        exact norm2_ (hJ2_13 (gbAa) _ ⟨(pB_ BKAc.out), (pB_ BKAb.out), (pB_ BKAa.out), GWAa.out, GEAa.out, NBAc_Aa.out, NBAa_Ac.out, NBAb_Aa.out, NBAa_Ab.out, (pH_ HB.out)⟩)
       skip
       rintro gbAa w76 ⟨h0_, h1_, h2_, h3_, h4_, h5_, h6_, h7_, h8_, h9_⟩
       have n0_ : Aside0 (w76.heap[gbAc]? = some (.cells #[.int .i64 a0_0, .int .i64 a0_1, .int .i64 a0_2, .int .i64 a0_3, .int .i64 a0_4, .slice A0_5 l0_5.length c0_5] 24 (0, 0))) := ⟨h0_⟩
       have n1_ : Aside0 (w76.heap[gbAb]? = some (.cells #[.int .i64 0, .int .i64 0, .int .i64 0, .int .i64 0, .int .i64 0, .slice none 0 0] 29 (0, 0))) := ⟨h1_⟩
       have n2_ : Aside0 (w76.heap[gbAa]? = some (.cells #[.int .i64 0, .int .i64 0, .int .i64 0, .int .i64 0, .int .i64 0, .slice none 0 0] 29 (0, 0))) := ⟨h2_⟩
       have n3_ : Aside0 (w.heap.size ≤ gbAa) := ⟨h3_⟩
       have n4_ : Aside0 (w.heap.size ≤ gbAa) := ⟨h4_⟩
       have n5_ : Aside0 (gbAc ≠ gbAa) := ⟨h5_⟩
       have n6_ : Aside0 (gbAa ≠ gbAc) := ⟨h6_⟩
       have n7_ : Aside0 (gbAb ≠ gbAa) := ⟨h7_⟩
       have n8_ : Aside0 (gbAa ≠ gbAb) := ⟨h8_⟩
       have n9_ : Aside0 (Below w.heap.size w w76) := ⟨h9_⟩
       clear BKAc
       clear BKAb
       clear HB
       clear h0_ h1_ h2_ h3_ h4_ h5_ h6_ h7_ h8_ h9_
       have BKAc := n0_
       have BKAb := n1_
       have BKAa := n2_
       have GWAa := n3_
       have GEAa := n4_
       have NBAc_Aa := n5_
       have NBAa_Ac := n6_
       have NBAb_Aa := n7_
       have NBAa_Ab := n8_
       have HB := n9_
       clear n0_ n1_ n2_ n3_ n4_ n5_ n6_ n7_ n8_ n9_
       have hHeld := trivial
       refine norm_ (a' := ?_) ?_ ?_
       rotate_left
       ·
        simp only [putAll, Act.put, List.setIfInBounds_toArray, List.set_cons_zero, List.set_cons_succ]
        rfl
       refine oq_ 5 28 HT_ (fun K hK => ?_)
       refine gs_ Try.func71 #[.string (tAd.extract 2 18)] ?_
       with_reducible refine (plaitingref5_number.calls k (tAd.extract 2 18) tAg _ A15.out).mono ?_
       rintro e w' ⟨rfl, ⟨nd, rfl⟩⟩
       refine ⟨_, rfl, ?_⟩
       refine hK.out _ _ trivial (fun hHeld => ?_)
       clear hK K
       refine nq_ 28 ?_
       exact norm2_ (hJ2_5_13 (gbAa) _ ⟨(pB_ BKAc.out), (pB_ BKAb.out), (pB_ BKAa.out), GWAa.out, GEAa.out, NBAc_Aa.out, NBAa_Ac.out, NBAb_Aa.out, NBAa_Ab.out, (pH_ HB.out)⟩)
      skip
      rintro _ w75 ⟨h0_, h1_, h2_⟩
      have n0_ : Aside0 (w75.heap[gbAc]? = some (.cells #[.int .i64 a0_0, .int .i64 a0_1, .int .i64 a0_2, .int .i64 a0_3, .int .i64 a0_4, .slice A0_5 l0_5.length c0_5] 24 (0, 0))) := ⟨h0_⟩
      have n1_ : Aside0 (w75.heap[gbAb]? = some (.cells #[.int .i64 0, .int .i64 0, .int .i64 0, .int .i64 0, .int .i64 0, .slice none 0 0] 29 (0, 0))) := ⟨h1_⟩
      have n2_ : Aside0 (Below w.heap.size w w75) := ⟨h2_⟩
      clear BKAc
      clear BKAb
      clear HB
      clear h0_ h1_ h2_
      have BKAc := n0_
      have BKAb := n1_
      have HB := n2_
      clear n0_ n1_ n2_
      have hHeld := trivial
      refine norm_ (a' := ?_) ?_ ?_
      rotate_left
      ·
       simp only [putAll, Act.put, List.setIfInBounds_toArray, List.set_cons_zero, List.set_cons_succ]
       rfl
      refine two_ (i := 8) (j := 13) (Ni := some 31) (Nj := some 8) #[true, true, true, true, true, true, true, true, true, true, true, false, false, false, false] #[true, true, true, true, true, true, true, true, false, true, true, false, false, true, false] rfl rfl rfl rfl (two_of HT_.out (by kernel_rfl)) (by decide) (by decide) (fun K hK => ?_) (fun K hK => ?_)
      ·
       skip
       refine gs_ Try.func71 #[.string (tAd.extract 18 24)] ?_
       with_reducible refine (plaitingref5_number.calls k (tAd.extract 18 24) tAh _ A18.out).mono ?_
       rintro e w' ⟨rfl, ⟨nd, rfl⟩⟩
       refine ⟨_, rfl, ?_⟩
       refine hK.out _ _ trivial (fun hHeld => ?_)
       clear hK K
       refine nq_ 31 ?_
       exact norm2_ (hJ2_5_8 () _ ⟨(pB_ BKAc.out), (pB_ BKAb.out), (pH_ HB.out)⟩)
      skip
      refine box_step ?hg (N := 8) ?hd (cs := #[.int .i64 0, .int .i64 0, .int .i64 0, .int .i64 0, .int .i64 0, .slice none 0 0]) (t := 29) ?hr ?_; (case hd => rfl); (case hg => rfl); (case hr => first | (go_simp; done) | (go_simp; rfl))
      intro gbAa hg w76 hbox hb
      have BKAa := Aside0.mk (hbox)
      have GWAa := Aside0.mk ((by rw [hg]; exact (below_size (pH_ HB.out)) : w.heap.size ≤ gbAa))
      have GEAa := Aside0.mk ((by rw [hg]; exact (below_size (pH_ HB.out)) : w.heap.size ≤ gbAa))
      have NBAc_Aa := Aside0.mk (ltB_ hg BKAc.out)
      have NBAa_Ac := Aside0.mk (ltB_ hg BKAc.out).symm
      have NBAb_Aa := Aside0.mk (ltB_ hg BKAb.out)
      have NBAa_Ab := Aside0.mk (ltB_ hg BKAb.out).symm
      replace BKAc := bb_ BKAc hb
      replace BKAb := bb_ BKAb hb
      replace HB := bs_ HB hb
      clear hb hbox hg
      refine hK.out _ _ trivial (fun hHeld => ?_)
      clear hK K
      refine nq_ 8 ?_
      exact norm2_ (hJ2_5_13 (gbAa) _ ⟨(pB_ BKAc.out), (pB_ BKAb.out), (pB_ BKAa.out), GWAa.out, GEAa.out, NBAc_Aa.out, NBAa_Ac.out, NBAb_Aa.out, NBAa_Ab.out, (pH_ HB.out)⟩)
     skip
     rintro gbAa w76 ⟨h0_, h1_, h2_, h3_, h4_, h5_, h6_, h7_, h8_, h9_⟩
     have n0_ : Aside0 (w76.heap[gbAc]? = some (.cells #[.int .i64 a0_0, .int .i64 a0_1, .int .i64 a0_2, .int .i64 a0_3, .int .i64 a0_4, .slice A0_5 l0_5.length c0_5] 24 (0, 0))) := ⟨h0_⟩
     have n1_ : Aside0 (w76.heap[gbAb]? = some (.cells #[.int .i64 0, .int .i64 0, .int .i64 0, .int .i64 0, .int .i64 0, .slice none 0 0] 29 (0, 0))) := ⟨h1_⟩
     have n2_ : Aside0 (w76.heap[gbAa]? = some (.cells #[.int .i64 0, .int .i64 0, .int .i64 0, .int .i64 0, .int .i64 0, .slice none 0 0] 29 (0, 0))) := ⟨h2_⟩
     have n3_ : Aside0 (w.heap.size ≤ gbAa) := ⟨h3_⟩
     have n4_ : Aside0 (w.heap.size ≤ gbAa) := ⟨h4_⟩
     have n5_ : Aside0 (gbAc ≠ gbAa) := ⟨h5_⟩
     have n6_ : Aside0 (gbAa ≠ gbAc) := ⟨h6_⟩
     have n7_ : Aside0 (gbAb ≠ gbAa) := ⟨h7_⟩
     have n8_ : Aside0 (gbAa ≠ gbAb) := ⟨h8_⟩
     have n9_ : Aside0 (Below w.heap.size w w76) := ⟨h9_⟩
     clear BKAc
     clear BKAb
     clear HB
     clear h0_ h1_ h2_ h3_ h4_ h5_ h6_ h7_ h8_ h9_
     have BKAc := n0_
     have BKAb := n1_
     have BKAa := n2_
     have GWAa := n3_
     have GEAa := n4_
     have NBAc_Aa := n5_
     have NBAa_Ac := n6_
     have NBAb_Aa := n7_
     have NBAa_Ab := n8_
     have HB := n9_
     clear n0_ n1_ n2_ n3_ n4_ n5_ n6_ n7_ n8_ n9_
     have hHeld := trivial
     refine norm_ (a' := ?_) ?_ ?_
     rotate_left
     ·
      simp only [putAll, Act.put, List.setIfInBounds_toArray, List.set_cons_zero, List.set_cons_succ]
      rfl
     refine oq_ 8 31 HT_ (fun K hK => ?_)
     refine gs_ Try.func71 #[.string (tAd.extract 18 24)] ?_
     with_reducible refine (plaitingref5_number.calls k (tAd.extract 18 24) tAh _ A18.out).mono ?_
     rintro e w' ⟨rfl, ⟨nd, rfl⟩⟩
     refine ⟨_, rfl, ?_⟩
     refine hK.out _ _ trivial (fun hHeld => ?_)
     clear hK K
     refine nq_ 31 ?_
     exact norm2_ (hJ2_5_8_13 (gbAa) _ ⟨(pB_ BKAc.out), (pB_ BKAb.out), (pB_ BKAa.out), GWAa.out, GEAa.out, NBAc_Aa.out, NBAa_Ac.out, NBAb_Aa.out, NBAa_Ab.out, (pH_ HB.out)⟩)
    skip
    rintro _ w75 ⟨h0_, h1_, h2_⟩
    have n0_ : Aside0 (w75.heap[gbAc]? = some (.cells #[.int .i64 a0_0, .int .i64 a0_1, .int .i64 a0_2, .int .i64 a0_3, .int .i64 a0_4, .slice A0_5 l0_5.length c0_5] 24 (0, 0))) := ⟨h0_⟩
    have n1_ : Aside0 (w75.heap[gbAb]? = some (.cells #[.int .i64 0, .int .i64 0, .int .i64 0, .int .i64 0, .int .i64 0, .slice none 0 0] 29 (0, 0))) := ⟨h1_⟩
    have n2_ : Aside0 (Below w.heap.size w w75) := ⟨h2_⟩
    clear BKAc
    clear BKAb
    clear HB
    clear h0_ h1_ h2_
    have BKAc := n0_
    have BKAb := n1_
    have HB := n2_
    clear n0_ n1_ n2_
    have hHeld := trivial
    refine norm_ (a' := ?_) ?_ ?_
    rotate_left
    ·
     simp only [putAll, Act.put, List.setIfInBounds_toArray, List.set_cons_zero, List.set_cons_succ]
     rfl
    refine two_ (i := 11) (j := 13) (Ni := some 34) (Nj := some 8) #[true, true, true, true, true, true, true, true, true, true, true, true, false, false, false] #[true, true, true, true, true, true, true, true, true, true, true, false, false, true, false] rfl rfl rfl rfl (two_of HT_.out (by kernel_rfl)) (by decide) (by decide) (fun K hK => ?_) (fun K hK => ?_)
    ·
     skip
     refine gs_ Try.func72 #[.string (tAd.extract 24 34)] ?_
     with_reducible refine (plaitingref5_read.calls k (tAd.extract 24 34) tAi tAj _ A21.out).mono ?_
     rintro e w76 ⟨rfl, hb⟩
     refine ⟨_, rfl, ?_⟩
     replace BKAc := bb_ BKAc hb
     replace BKAb := bb_ BKAb hb
     replace HB := bs_ HB hb
     (try clear hb)
     (try clear hb2)
     (try clear hk)
     (try clear hi)
     refine hK.out _ _ trivial (fun hHeld => ?_)
     clear hK K
     refine nq_ 34 ?_
     refine pq_ 12 35 HT_ ?_
     exact norm2_ (hJ2_5_8_11 () _ ⟨(pB_ BKAc.out), (pB_ BKAb.out), (pH_ HB.out)⟩)
    skip
    refine box_step ?hg (N := 8) ?hd (cs := #[.int .i64 0, .int .i64 0, .int .i64 0, .int .i64 0, .int .i64 0, .slice none 0 0]) (t := 29) ?hr ?_; (case hd => rfl); (case hg => rfl); (case hr => first | (go_simp; done) | (go_simp; rfl))
    intro gbAa hg w76 hbox hb
    have BKAa := Aside0.mk (hbox)
    have GWAa := Aside0.mk ((by rw [hg]; exact (below_size (pH_ HB.out)) : w.heap.size ≤ gbAa))
    have GEAa := Aside0.mk ((by rw [hg]; exact (below_size (pH_ HB.out)) : w.heap.size ≤ gbAa))
    have NBAc_Aa := Aside0.mk (ltB_ hg BKAc.out)
    have NBAa_Ac := Aside0.mk (ltB_ hg BKAc.out).symm
    have NBAb_Aa := Aside0.mk (ltB_ hg BKAb.out)
    have NBAa_Ab := Aside0.mk (ltB_ hg BKAb.out).symm
    replace BKAc := bb_ BKAc hb
    replace BKAb := bb_ BKAb hb
    replace HB := bs_ HB hb
    clear hb hbox hg
    refine hK.out _ _ trivial (fun hHeld => ?_)
    clear hK K
    refine nq_ 8 ?_
    exact norm2_ (hJ2_5_8_13 (gbAa) _ ⟨(pB_ BKAc.out), (pB_ BKAb.out), (pB_ BKAa.out), GWAa.out, GEAa.out, NBAc_Aa.out, NBAa_Ac.out, NBAb_Aa.out, NBAa_Ab.out, (pH_ HB.out)⟩)
   skip
   rintro gbAa w76 ⟨h0_, h1_, h2_, h3_, h4_, h5_, h6_, h7_, h8_, h9_⟩
   have n0_ : Aside0 (w76.heap[gbAc]? = some (.cells #[.int .i64 a0_0, .int .i64 a0_1, .int .i64 a0_2, .int .i64 a0_3, .int .i64 a0_4, .slice A0_5 l0_5.length c0_5] 24 (0, 0))) := ⟨h0_⟩
   have n1_ : Aside0 (w76.heap[gbAb]? = some (.cells #[.int .i64 0, .int .i64 0, .int .i64 0, .int .i64 0, .int .i64 0, .slice none 0 0] 29 (0, 0))) := ⟨h1_⟩
   have n2_ : Aside0 (w76.heap[gbAa]? = some (.cells #[.int .i64 0, .int .i64 0, .int .i64 0, .int .i64 0, .int .i64 0, .slice none 0 0] 29 (0, 0))) := ⟨h2_⟩
   have n3_ : Aside0 (w.heap.size ≤ gbAa) := ⟨h3_⟩
   have n4_ : Aside0 (w.heap.size ≤ gbAa) := ⟨h4_⟩
   have n5_ : Aside0 (gbAc ≠ gbAa) := ⟨h5_⟩
   have n6_ : Aside0 (gbAa ≠ gbAc) := ⟨h6_⟩
   have n7_ : Aside0 (gbAb ≠ gbAa) := ⟨h7_⟩
   have n8_ : Aside0 (gbAa ≠ gbAb) := ⟨h8_⟩
   have n9_ : Aside0 (Below w.heap.size w w76) := ⟨h9_⟩
   clear BKAc
   clear BKAb
   clear HB
   clear h0_ h1_ h2_ h3_ h4_ h5_ h6_ h7_ h8_ h9_
   have BKAc := n0_
   have BKAb := n1_
   have BKAa := n2_
   have GWAa := n3_
   have GEAa := n4_
   have NBAc_Aa := n5_
   have NBAa_Ac := n6_
   have NBAb_Aa := n7_
   have NBAa_Ab := n8_
   have HB := n9_
   clear n0_ n1_ n2_ n3_ n4_ n5_ n6_ n7_ n8_ n9_
   have hHeld := trivial
   refine norm_ (a' := ?_) ?_ ?_
   rotate_left
   ·
    simp only [putAll, Act.put, List.setIfInBounds_toArray, List.set_cons_zero, List.set_cons_succ]
    rfl
   refine oq_ 11 34 HT_ (fun K hK => ?_)
   refine gs_ Try.func72 #[.string (tAd.extract 24 34)] ?_
   with_reducible refine (plaitingref5_read.calls k (tAd.extract 24 34) tAi tAj _ A21.out).mono ?_
   rintro e w77 ⟨rfl, hb⟩
   refine ⟨_, rfl, ?_⟩
   replace BKAc := bb_ BKAc hb
   replace BKAb := bb_ BKAb hb
   replace BKAa := bb_ BKAa hb
   replace HB := bs_ HB hb
   (try clear hb)
   (try clear hb2)
   (try clear hk)
   (try clear hi)
   refine hK.out _ _ trivial (fun hHeld => ?_)
   clear hK K
   refine nq_ 34 ?_
   refine pq_ 12 35 HT_ ?_
   exact norm2_ (hJ2_5_8_11_13 (gbAa) _ ⟨(pB_ BKAc.out), (pB_ BKAb.out), (pB_ BKAa.out), GWAa.out, GEAa.out, NBAc_Aa.out, NBAa_Ac.out, NBAb_Aa.out, NBAa_Ab.out, (pH_ HB.out)⟩)
  skip
  rintro _ w76 ⟨h0_, h1_, h2_⟩
  have n0_ : Aside0 (w76.heap[gbAc]? = some (.cells #[.int .i64 a0_0, .int .i64 a0_1, .int .i64 a0_2, .int .i64 a0_3, .int .i64 a0_4, .slice A0_5 l0_5.length c0_5] 24 (0, 0))) := ⟨h0_⟩
  have n1_ : Aside0 (w76.heap[gbAb]? = some (.cells #[.int .i64 0, .int .i64 0, .int .i64 0, .int .i64 0, .int .i64 0, .slice none 0 0] 29 (0, 0))) := ⟨h1_⟩
  have n2_ : Aside0 (Below w.heap.size w w76) := ⟨h2_⟩
  clear BKAc
  clear BKAb
  clear HB
  clear h0_ h1_ h2_
  have BKAc := n0_
  have BKAb := n1_
  have HB := n2_
  clear n0_ n1_ n2_
  have hHeld := trivial
  refine norm_ (a' := ?_) ?_ ?_
  rotate_left
  ·
   simp only [putAll, Act.put, List.setIfInBounds_toArray, List.set_cons_zero, List.set_cons_succ]
   rfl
  refine oq_ 13 8 HT_ (fun K hK => ?_)
  refine box_step ?hg (N := 8) ?hd (cs := #[.int .i64 0, .int .i64 0, .int .i64 0, .int .i64 0, .int .i64 0, .slice none 0 0]) (t := 29) ?hr ?_; (case hd => rfl); (case hg => rfl); (case hr => first | (go_simp; done) | (go_simp; rfl))
  intro gbAa hg w77 hbox hb
  have BKAa := Aside0.mk (hbox)
  have GWAa := Aside0.mk ((by rw [hg]; exact (below_size (pH_ HB.out)) : w.heap.size ≤ gbAa))
  have GEAa := Aside0.mk ((by rw [hg]; exact (below_size (pH_ HB.out)) : w.heap.size ≤ gbAa))
  have NBAc_Aa := Aside0.mk (ltB_ hg BKAc.out)
  have NBAa_Ac := Aside0.mk (ltB_ hg BKAc.out).symm
  have NBAb_Aa := Aside0.mk (ltB_ hg BKAb.out)
  have NBAa_Ab := Aside0.mk (ltB_ hg BKAb.out).symm
  replace BKAc := bb_ BKAc hb
  replace BKAb := bb_ BKAb hb
  replace HB := bs_ HB hb
  clear hb hbox hg
  refine hK.out _ _ trivial (fun hHeld => ?_)
  clear hK K
  refine nq_ 8 ?_
  exact norm2_ (hJ2_5_8_11_13 (gbAa) _ ⟨(pB_ BKAc.out), (pB_ BKAb.out), (pB_ BKAa.out), GWAa.out, GEAa.out, NBAc_Aa.out, NBAa_Ac.out, NBAb_Aa.out, NBAa_Ab.out, (pH_ HB.out)⟩)
 rintro gbAa w77 ⟨h0_, h1_, h2_, h3_, h4_, h5_, h6_, h7_, h8_, h9_⟩
 have n0_ : Aside0 (w77.heap[gbAc]? = some (.cells #[.int .i64 a0_0, .int .i64 a0_1, .int .i64 a0_2, .int .i64 a0_3, .int .i64 a0_4, .slice A0_5 l0_5.length c0_5] 24 (0, 0))) := ⟨h0_⟩
 have n1_ : Aside0 (w77.heap[gbAb]? = some (.cells #[.int .i64 0, .int .i64 0, .int .i64 0, .int .i64 0, .int .i64 0, .slice none 0 0] 29 (0, 0))) := ⟨h1_⟩
 have n2_ : Aside0 (w77.heap[gbAa]? = some (.cells #[.int .i64 0, .int .i64 0, .int .i64 0, .int .i64 0, .int .i64 0, .slice none 0 0] 29 (0, 0))) := ⟨h2_⟩
 have n3_ : Aside0 (w.heap.size ≤ gbAa) := ⟨h3_⟩
 have n4_ : Aside0 (w.heap.size ≤ gbAa) := ⟨h4_⟩
 have n5_ : Aside0 (gbAc ≠ gbAa) := ⟨h5_⟩
 have n6_ : Aside0 (gbAa ≠ gbAc) := ⟨h6_⟩
 have n7_ : Aside0 (gbAb ≠ gbAa) := ⟨h7_⟩
 have n8_ : Aside0 (gbAa ≠ gbAb) := ⟨h8_⟩
 have n9_ : Aside0 (Below w.heap.size w w77) := ⟨h9_⟩
 clear BKAc
 clear BKAb
 clear HB
 clear h0_ h1_ h2_ h3_ h4_ h5_ h6_ h7_ h8_ h9_
 have BKAc := n0_
 have BKAb := n1_
 have BKAa := n2_
 have GWAa := n3_
 have GEAa := n4_
 have NBAc_Aa := n5_
 have NBAa_Ac := n6_
 have NBAb_Aa := n7_
 have NBAa_Ab := n8_
 have HB := n9_
 clear n0_ n1_ n2_ n3_ n4_ n5_ n6_ n7_ n8_ n9_
 have hHeld := trivial
 refine norm_ (a' := ?_) ?_ ?_
 rotate_left
 ·
  simp only [putAll, Act.put, List.setIfInBounds_toArray, List.set_cons_zero, List.set_cons_succ]
  rfl
 refine one_ (i := 14) (N := none) #[true, true, true, true, true, true, true, true, true, true, true, true, true, true, true] rfl rfl (one_of HT_.out (by kernel_rfl)) (by decide) (fun K hK => ?_)
 have hs78 : w77.cell? ⟨gbAa, 0, none⟩ = some (.int .i64 0) := bc_ BKAa 0
 have hfs78 := blk_frozen BKAa.out 0
 have hns78_0 := NBAc_Aa.out
 have hns78_1 := NBAb_Aa.out
 have hms78_0 := NBAa_Ac.out
 have hms78_1 := NBAa_Ab.out
 have hs79 : w77.cell? ⟨gbAa, 1, none⟩ = some (.int .i64 0) := bc_ BKAa 1
 have hfs79 := blk_frozen BKAa.out 1
 have hns79_0 := NBAc_Aa.out
 have hns79_1 := NBAb_Aa.out
 have hms79_0 := NBAa_Ac.out
 have hms79_1 := NBAa_Ab.out
 have hs80 : w77.cell? ⟨gbAa, 2, none⟩ = some (.int .i64 0) := bc_ BKAa 2
 have hfs80 := blk_frozen BKAa.out 2
 have hns80_0 := NBAc_Aa.out
 have hns80_1 := NBAb_Aa.out
 have hms80_0 := NBAa_Ac.out
 have hms80_1 := NBAa_Ab.out
 have hs81 : w77.cell? ⟨gbAa, 3, none⟩ = some (.int .i64 0) := bc_ BKAa 3
 have hfs81 := blk_frozen BKAa.out 3
 have hns81_0 := NBAc_Aa.out
 have hns81_1 := NBAb_Aa.out
 have hms81_0 := NBAa_Ac.out
 have hms81_1 := NBAa_Ab.out
 have hs82 : w77.cell? ⟨gbAa, 4, none⟩ = some (.int .i64 0) := bc_ BKAa 4
 have hfs82 := blk_frozen BKAa.out 4
 have hns82_0 := NBAc_Aa.out
 have hns82_1 := NBAb_Aa.out
 have hms82_0 := NBAa_Ac.out
 have hms82_1 := NBAa_Ab.out
 have hs83 : w77.cell? ⟨gbAa, 5, none⟩ = some (.slice none 0 0) := bc_ BKAa 5
 have hfs83 := blk_frozen BKAa.out 5
 have hns83_0 := NBAc_Aa.out
 have hns83_1 := NBAb_Aa.out
 have hms83_0 := NBAa_Ac.out
 have hms83_1 := NBAa_Ab.out
 refine skip_ (w1 := ?_) (by rfl) rfl ?_ ?_
 rotate_left
 ·
  go_simp
  rfl
 refine hK.out _ _ trivial (fun hHeld => ?_)
 clear hK K
 refine done_ (done_of HT_.out (by kernel_rfl)) ?_
 have hnb84 := NBAc_Ab.out
 have hnc84 := NBAb_Ac.out
 have hnb85 := NBAc_Aa.out
 have hnc85 := NBAa_Ac.out
 obtain ⟨hcz86_0, hcz86_1, hcz86_2, hcz86_3, hcz86_4, hcz86_5⟩ := c6_ BKAc
 obtain ⟨hfz86_0, hfz86_1, hfz86_2, hfz86_3, hfz86_4, hfz86_5⟩ := f6_ BKAc
 have hnb87 := NBAa_Ab.out
 have hnc87 := NBAb_Aa.out
 obtain ⟨hcz88_0, hcz88_1, hcz88_2, hcz88_3, hcz88_4, hcz88_5⟩ := c6_ BKAa
 obtain ⟨hfz88_0, hfz88_1, hfz88_2, hfz88_3, hfz88_4, hfz88_5⟩ := f6_ BKAa
 try go_wp2_with (first | ((with_reducible refine gate_callee (f := 54) rfl ?_); refine gL_ 44 Try.func54 #[.agg #[.int .i64 a0_0, .int .i64 a0_1, .int .i64 a0_2, .int .i64 a0_3, .int .i64 a0_4, .slice A0_5 l0_5.length c0_5], .int .i64 tAf, .int .i64 tAh] ?_; (with_reducible refine (plaitingref5_echoes.calls a0_0 a0_1 a0_2 a0_3 a0_4 _ _ l0_5 tAf tAh tAe _ ?side1 ?side2 A22.out).mono ?_); (case side1 => exact Kd.C_below HR0_5.out (pH_ HB.out)); (case side2 => exact HC0_5.out); rintro e w89 ⟨rfl, hb⟩; refine ⟨_, rfl, ?_⟩; replace BKAc := Aside0.mk (blk_below (g := gbAc) (o := .cells #[.int .i64 a0_0, .int .i64 a0_1, .int .i64 a0_2, .int .i64 a0_3, .int .i64 a0_4, .slice A0_5 l0_5.length c0_5] 24 (0, 0)) (bF_ BKAc.out NBAc_Aa.out) hb); replace BKAb := Aside0.mk (blk_below (g := gbAb) (o := .cells #[.int .i64 0, .int .i64 0, .int .i64 0, .int .i64 0, .int .i64 0, .slice none 0 0] 29 (0, 0)) (bF_ BKAb.out NBAb_Aa.out) hb); replace BKAa := Aside0.mk (blk_below (g := gbAa) (o := .cells #[.int .i64 tAf, .int .i64 tAg, .int .i64 tAh, .int .i64 tAi, .int .i64 tAj, .slice none 0 0] 29 (0, 0)) (by (with_reducible repeat (first | refine blk_drewN ?_ _ | refine blk_drew ?_ | refine blk_alloc ?_ _)); refine blk_put (cs := #[.int .i64 tAf, .int .i64 tAg, .int .i64 tAh, .int .i64 tAi, .int .i64 tAj, .slice none 0 0]) ?_ 5 _ rfl; (with_reducible repeat (first | refine blk_drewN ?_ _ | refine blk_drew ?_ | refine blk_alloc ?_ _)); refine blk_put (cs := #[.int .i64 tAf, .int .i64 tAg, .int .i64 tAh, .int .i64 tAi, .int .i64 0, .slice none 0 0]) ?_ 4 _ rfl; (with_reducible repeat (first | refine blk_drewN ?_ _ | refine blk_drew ?_ | refine blk_alloc ?_ _)); refine blk_put (cs := #[.int .i64 tAf, .int .i64 tAg, .int .i64 tAh, .int .i64 0, .int .i64 0, .slice none 0 0]) ?_ 3 _ rfl; (with_reducible repeat (first | refine blk_drewN ?_ _ | refine blk_drew ?_ | refine blk_alloc ?_ _)); refine blk_put (cs := #[.int .i64 tAf, .int .i64 tAg, .int .i64 0, .int .i64 0, .int .i64 0, .slice none 0 0]) ?_ 2 _ rfl; (with_reducible repeat (first | refine blk_drewN ?_ _ | refine blk_drew ?_ | refine blk_alloc ?_ _)); refine blk_put (cs := #[.int .i64 tAf, .int .i64 0, .int .i64 0, .int .i64 0, .int .i64 0, .slice none 0 0]) ?_ 1 _ rfl; (with_reducible repeat (first | refine blk_drewN ?_ _ | refine blk_drew ?_ | refine blk_alloc ?_ _)); refine blk_put (cs := #[.int .i64 0, .int .i64 0, .int .i64 0, .int .i64 0, .int .i64 0, .slice none 0 0]) ?_ 0 _ rfl; (with_reducible repeat (first | refine blk_drewN ?_ _ | refine blk_drew ?_ | refine blk_alloc ?_ _)); exact BKAa.out) hb); replace HB := bs_ HB hb; (try clear hb); (try clear hb2); (try clear hk); (try clear hi); obtain ⟨hcz90_0, hcz90_1, hcz90_2, hcz90_3, hcz90_4, hcz90_5⟩ := c6_ BKAb; obtain ⟨hfz90_0, hfz90_1, hfz90_2, hfz90_3, hfz90_4, hfz90_5⟩ := f6_ BKAb))
 refine bodyPost_ret (results_ct rfl _ _ gbAb 29 #[.int .i64 0, .int .i64 0, .int .i64 0, .int .i64 0, .int .i64 0, .slice none 0 0] (0, 0) _ rfl (by (with_reducible repeat (first | refine blk_drewN ?_ _ | refine blk_drew ?_ | refine blk_alloc ?_ _)); refine blk_put (cs := #[.int .i64 0, .int .i64 0, .int .i64 0, .int .i64 0, .int .i64 0, .slice none 0 0]) ?_ 5 _ rfl; (with_reducible repeat (first | refine blk_drewN ?_ _ | refine blk_drew ?_ | refine blk_alloc ?_ _)); refine blk_put (cs := #[.int .i64 0, .int .i64 0, .int .i64 0, .int .i64 0, .int .i64 0, .slice none 0 0]) ?_ 4 _ rfl; (with_reducible repeat (first | refine blk_drewN ?_ _ | refine blk_drew ?_ | refine blk_alloc ?_ _)); refine blk_put (cs := #[.int .i64 0, .int .i64 0, .int .i64 0, .int .i64 0, .int .i64 0, .slice none 0 0]) ?_ 3 _ rfl; (with_reducible repeat (first | refine blk_drewN ?_ _ | refine blk_drew ?_ | refine blk_alloc ?_ _)); refine blk_put (cs := #[.int .i64 0, .int .i64 0, .int .i64 0, .int .i64 0, .int .i64 0, .slice none 0 0]) ?_ 2 _ rfl; (with_reducible repeat (first | refine blk_drewN ?_ _ | refine blk_drew ?_ | refine blk_alloc ?_ _)); refine blk_put (cs := #[.int .i64 0, .int .i64 0, .int .i64 0, .int .i64 0, .int .i64 0, .slice none 0 0]) ?_ 1 _ rfl; (with_reducible repeat (first | refine blk_drewN ?_ _ | refine blk_drew ?_ | refine blk_alloc ?_ _)); refine blk_put (cs := #[.int .i64 0, .int .i64 0, .int .i64 0, .int .i64 0, .int .i64 0, .slice none 0 0]) ?_ 0 _ rfl; (with_reducible repeat (first | refine blk_drewN ?_ _ | refine blk_drew ?_ | refine blk_alloc ?_ _)); exact BKAb.out) Try.underlying29 rfl (by kernel_rfl)) rfl ?_
 exact ⟨_, by first | rfl | (simp [errW_none, errW_some] <;> rfl) | (simp [*, errW_none, errW_some] <;> rfl), by first | exact Kd.R_nil _ _ _ _ _ | exact Kd.N_nil _ _ _ _ _ | exact Kd.V_nil _ _ _ _ _ | exact Kd.Q_nil _ _ _ _ _ | exact Kd.S_nil _ _ _ _ _, pH_ HB.out⟩
end Go.Proofs.Ytcpohmfkmgcjkaa.P
