/- Printed by a program of this session (myprint) out of the translation: the functions as plain Lean functions, and that the calls compute them. What counts is Lean's check. -/
import Derived.Test.YtcpohmfkmgcjkaaQFrameChecksPx0
import Derived.Test.YtcpohmfkmgcjkaaQFrameChecksPx1
import Derived.Test.YtcpohmfkmgcjkaaQFrameChecksShort
namespace Go.Proofs.Ytcpohmfkmgcjkaa.P
open Go.RowKit Go.Proofs.YtcpohmfkmgcjkaaW.PrintWords Go.Proofs.YtcpohmfkmgcjkaaW.PrintLast Go.Proofs.YtcpohmfkmgcjkaaW.PrintMore
attribute [local go_sem] max2_int min2_int max_two min_two max_three min_three max_four min_four
set_option linter.unusedVariables false
set_option linter.unusedSimpArgs false
attribute [-simp] ByteArray.size_extract ByteArray.size_append ByteArray.extract_append_extract
attribute [-go_sem] ByteArray.size_append'
def plaitinglaw5_known.f  : Option (Bool) := (frame_Text.f 6 4 0 0 0 ([] : List Int) 1 0 0 0 0 ([] : List (S26))).bind fun tAe => (if (tAe.size : Int) = 51 then ((frame_Check.f 6 4 0 0 0 ([] : List Int) 0 0 0 0 0 ([] : List (S26))).bind fun tAf => (some (tAf == 6))) else (some false))
set_option maxHeartbeats 8000000 in
set_option maxRecDepth 100000 in
theorem plaitinglaw5_known.calls  (r : Bool) (w : World) (h : plaitinglaw5_known.f  = some r) :
  Calls Try.prog 18 #[] w fun e w' => e = .returned (.bool r) ∧ Below w.heap.size w w' := by
 have hu24 := Try.underlying24
 have hu29 := Try.underlying29
 have HB := Aside0.mk (Below.refl w.heap.size w)
 have H : ((frame_Text.f 6 4 0 0 0 ([] : List Int) 1 0 0 0 0 ([] : List (S26))).bind fun tAe => (if (tAe.size : Int) = 51 then ((frame_Check.f 6 4 0 0 0 ([] : List Int) 0 0 0 0 0 ([] : List (S26))).bind fun tAf => (some (tAf == 6))) else (some false))) = some r := h
 clear h
 replace H := Option.bind_eq_some_iff.mp H
 obtain ⟨tAe, A10, H⟩ := H
 replace H : (if (tAe.size : Int) = 51 then ((frame_Check.f 6 4 0 0 0 ([] : List Int) 0 0 0 0 0 ([] : List (S26))).bind fun tAf => (some (tAf == 6))) else (some false)) = some r := H
 have A1 := Aside0.mk A10
 clear A10
 by_cases c2 : (tAe.size : Int) = 51
 ·
  rw [if_pos c2] at H
  have c2b0 : ((tAe.size : Int) == 51) = true := beq_iff_eq.mpr c2
  have c2b1 : ((tAe.size : Int) != 51) = false := bne_eq_false_iff_eq.mpr c2
  clear c2
  replace H := Option.bind_eq_some_iff.mp H
  obtain ⟨tAf, A30, H⟩ := H
  replace H : (some (tAf == 6)) = some r := H
  have A3 := Aside0.mk A30
  clear A30
  obtain rfl := Option.some.inj H
  go_enter Try.func18, Try.ntmps18
  go_wp2_with (first | ((with_reducible refine gate_dst (N := 1) rfl ?_); refine box_event ?hg (N := 1) ?hd (cs := #[.int .i64 0, .int .i64 0, .int .i64 0, .int .i64 0, .int .i64 0, .slice none 0 0]) (t := 24) ?hr ?_; (case hd => rfl); (case hg => rfl); (case hr => first | (go_simp; done) | (go_simp; rfl)); intro gbAa hg w4 hbox hb; have n0_ := Aside0.mk (below_step (by repeat (first | (with_reducible first | exact HB.out | apply below_alloc | apply pw_below_drewN | apply below_drew1) | exact HB.out)) hb); have n1_ := Aside0.mk (hbox); have n2_ := Aside0.mk ((by rw [hg]; exact (below_size (by repeat (first | (with_reducible first | exact HB.out | apply below_alloc | apply pw_below_drewN | apply below_drew1) | exact HB.out))) : w.heap.size ≤ gbAa)); have n3_ := Aside0.mk ((by rw [hg]; exact (below_size (by repeat (first | (with_reducible first | exact HB.out | apply below_alloc | apply pw_below_drewN | apply below_drew1) | exact HB.out))) : w.heap.size ≤ gbAa)); clear HB; have HB := n0_; have BKAa := n1_; have GWAa := n2_; have GEAa := n3_; clear n0_ n1_ n2_ n3_; clear hb hbox hg; have hcz5_0 : w4.cell? ⟨gbAa, 0, none⟩ = some (.int .i64 0) := (blk_cell BKAa.out 0).trans rfl; have hcz5_1 : w4.cell? ⟨gbAa, 1, none⟩ = some (.int .i64 0) := (blk_cell BKAa.out 1).trans rfl; have hcz5_2 : w4.cell? ⟨gbAa, 2, none⟩ = some (.int .i64 0) := (blk_cell BKAa.out 2).trans rfl; have hcz5_3 : w4.cell? ⟨gbAa, 3, none⟩ = some (.int .i64 0) := (blk_cell BKAa.out 3).trans rfl; have hcz5_4 : w4.cell? ⟨gbAa, 4, none⟩ = some (.int .i64 0) := (blk_cell BKAa.out 4).trans rfl; have hcz5_5 : w4.cell? ⟨gbAa, 5, none⟩ = some (.slice none 0 0) := (blk_cell BKAa.out 5).trans rfl; have hfz5_0 := blk_frozen BKAa.out 0; have hfz5_1 := blk_frozen BKAa.out 1; have hfz5_2 := blk_frozen BKAa.out 2; have hfz5_3 := blk_frozen BKAa.out 3; have hfz5_4 := blk_frozen BKAa.out 4; have hfz5_5 := blk_frozen BKAa.out 5) | ((with_reducible refine gate_callee (f := 26) rfl ?_); refine gL_ 5 Try.func26 #[.agg #[.int .i64 6, .int .i64 4, .int .i64 0, .int .i64 0, .int .i64 0, .slice none 0 0], .agg #[.int .i64 1, .int .i64 0, .int .i64 0, .int .i64 0, .int .i64 0, .slice none 0 0]] ?_; (refine (frame_Text.calls 6 4 0 0 0 _ _ ([] : List Int) 1 0 0 0 0 _ _ ([] : List (S26)) tAe _ ?side1 ?side2 ?side3 ?side4 A1.out).mono ?_); (case side1 => exact Kd.C_nil _ _); (case side2 => exact Nat.le_refl _); (case side3 => exact Kd.C_nil _ _); (case side4 => exact Nat.le_refl _); rintro e w6 ⟨rfl, hb⟩; refine ⟨_, rfl, ?_⟩; have n0_ := Aside0.mk (blk_below (g := gbAa) (o := .cells #[.int .i64 6, .int .i64 4, .int .i64 0, .int .i64 0, .int .i64 0, .slice none 0 0] 24 (0, 0)) (by (with_reducible repeat (first | refine blk_drewN ?_ _ | refine blk_drew ?_ | refine blk_alloc ?_ _)); refine blk_put (cs := #[.int .i64 6, .int .i64 4, .int .i64 0, .int .i64 0, .int .i64 0, .slice none 0 0]) ?_ 5 _ rfl; (with_reducible repeat (first | refine blk_drewN ?_ _ | refine blk_drew ?_ | refine blk_alloc ?_ _)); refine blk_put (cs := #[.int .i64 6, .int .i64 4, .int .i64 0, .int .i64 0, .int .i64 0, .slice none 0 0]) ?_ 4 _ rfl; (with_reducible repeat (first | refine blk_drewN ?_ _ | refine blk_drew ?_ | refine blk_alloc ?_ _)); refine blk_put (cs := #[.int .i64 6, .int .i64 4, .int .i64 0, .int .i64 0, .int .i64 0, .slice none 0 0]) ?_ 3 _ rfl; (with_reducible repeat (first | refine blk_drewN ?_ _ | refine blk_drew ?_ | refine blk_alloc ?_ _)); refine blk_put (cs := #[.int .i64 6, .int .i64 4, .int .i64 0, .int .i64 0, .int .i64 0, .slice none 0 0]) ?_ 2 _ rfl; (with_reducible repeat (first | refine blk_drewN ?_ _ | refine blk_drew ?_ | refine blk_alloc ?_ _)); refine blk_put (cs := #[.int .i64 6, .int .i64 0, .int .i64 0, .int .i64 0, .int .i64 0, .slice none 0 0]) ?_ 1 _ rfl; (with_reducible repeat (first | refine blk_drewN ?_ _ | refine blk_drew ?_ | refine blk_alloc ?_ _)); refine blk_put (cs := #[.int .i64 0, .int .i64 0, .int .i64 0, .int .i64 0, .int .i64 0, .slice none 0 0]) ?_ 0 _ rfl; (with_reducible repeat (first | refine blk_drewN ?_ _ | refine blk_drew ?_ | refine blk_alloc ?_ _)); exact BKAa.out) hb); have n1_ := Aside0.mk (below_step (by repeat (first | (with_reducible first | exact HB.out | apply below_alloc | apply pw_below_drewN | apply below_drew1 | refine below_set ?_ GEAa.out) | exact HB.out)) hb); clear BKAa; clear HB; have BKAa := n0_; have HB := n1_; clear n0_ n1_; (try clear hb); (try clear hb2); (try clear hk); (try clear hi); have hcz7_0 : w6.cell? ⟨gbAa, 0, none⟩ = some (.int .i64 6) := (blk_cell BKAa.out 0).trans rfl; have hcz7_1 : w6.cell? ⟨gbAa, 1, none⟩ = some (.int .i64 4) := (blk_cell BKAa.out 1).trans rfl; have hcz7_2 : w6.cell? ⟨gbAa, 2, none⟩ = some (.int .i64 0) := (blk_cell BKAa.out 2).trans rfl; have hcz7_3 : w6.cell? ⟨gbAa, 3, none⟩ = some (.int .i64 0) := (blk_cell BKAa.out 3).trans rfl; have hcz7_4 : w6.cell? ⟨gbAa, 4, none⟩ = some (.int .i64 0) := (blk_cell BKAa.out 4).trans rfl; have hcz7_5 : w6.cell? ⟨gbAa, 5, none⟩ = some (.slice none 0 0) := (blk_cell BKAa.out 5).trans rfl; have hfz7_0 := blk_frozen BKAa.out 0; have hfz7_1 := blk_frozen BKAa.out 1; have hfz7_2 := blk_frozen BKAa.out 2; have hfz7_3 := blk_frozen BKAa.out 3; have hfz7_4 := blk_frozen BKAa.out 4; have hfz7_5 := blk_frozen BKAa.out 5) | (go_at_call 22; (refine (frame_Check.calls 6 4 0 0 0 _ _ ([] : List Int) 0 0 0 0 0 _ _ ([] : List (S26)) tAf _ ?side1 ?side2 ?side3 ?side4 A3.out).mono ?_); (case side1 => exact Kd.C_nil _ _); (case side2 => exact Nat.le_refl _); (case side3 => exact Kd.C_nil _ _); (case side4 => exact Nat.le_refl _); rintro e w8 ⟨rfl, hb⟩; have n0_ := Aside0.mk (blk_below (g := gbAa) (o := .cells #[.int .i64 6, .int .i64 4, .int .i64 0, .int .i64 0, .int .i64 0, .slice none 0 0] 24 (0, 0)) (by (with_reducible repeat (first | refine blk_drewN ?_ _ | refine blk_drew ?_ | refine blk_alloc ?_ _)); exact BKAa.out) hb); have n1_ := Aside0.mk (below_step (by repeat (first | (with_reducible first | exact HB.out | apply below_alloc | apply pw_below_drewN | apply below_drew1 | refine below_set ?_ GEAa.out) | exact HB.out)) hb); clear BKAa; clear HB; have BKAa := n0_; have HB := n1_; clear n0_ n1_; (try clear hb); (try clear hb2); (try clear hk); (try clear hi)))
  go_ret
  exact ⟨by first | rfl | (simp [errW_none, errW_some] <;> rfl) | (simp [*, errW_none, errW_some] <;> rfl), by repeat (first | (with_reducible first | exact HB.out | apply below_alloc | apply pw_below_drewN | apply below_drew1 | refine below_set ?_ GEAa.out) | exact HB.out)⟩
 ·
  rw [if_neg c2] at H
  have c2b0 : ((tAe.size : Int) == 51) = false := beq_eq_false_iff_ne.mpr c2
  have c2b1 : ((tAe.size : Int) != 51) = true := bne_iff_ne.mpr c2
  obtain rfl := Option.some.inj H
  go_enter Try.func18, Try.ntmps18
  go_wp2_with (first | ((with_reducible refine gate_dst (N := 1) rfl ?_); refine box_event ?hg (N := 1) ?hd (cs := #[.int .i64 0, .int .i64 0, .int .i64 0, .int .i64 0, .int .i64 0, .slice none 0 0]) (t := 24) ?hr ?_; (case hd => rfl); (case hg => rfl); (case hr => first | (go_simp; done) | (go_simp; rfl)); intro gbAa hg w9 hbox hb; have n0_ := Aside0.mk (below_step (by repeat (first | (with_reducible first | exact HB.out | apply below_alloc | apply pw_below_drewN | apply below_drew1) | exact HB.out)) hb); have n1_ := Aside0.mk (hbox); have n2_ := Aside0.mk ((by rw [hg]; exact (below_size (by repeat (first | (with_reducible first | exact HB.out | apply below_alloc | apply pw_below_drewN | apply below_drew1) | exact HB.out))) : w.heap.size ≤ gbAa)); have n3_ := Aside0.mk ((by rw [hg]; exact (below_size (by repeat (first | (with_reducible first | exact HB.out | apply below_alloc | apply pw_below_drewN | apply below_drew1) | exact HB.out))) : w.heap.size ≤ gbAa)); clear HB; have HB := n0_; have BKAa := n1_; have GWAa := n2_; have GEAa := n3_; clear n0_ n1_ n2_ n3_; clear hb hbox hg; have hcz10_0 : w9.cell? ⟨gbAa, 0, none⟩ = some (.int .i64 0) := (blk_cell BKAa.out 0).trans rfl; have hcz10_1 : w9.cell? ⟨gbAa, 1, none⟩ = some (.int .i64 0) := (blk_cell BKAa.out 1).trans rfl; have hcz10_2 : w9.cell? ⟨gbAa, 2, none⟩ = some (.int .i64 0) := (blk_cell BKAa.out 2).trans rfl; have hcz10_3 : w9.cell? ⟨gbAa, 3, none⟩ = some (.int .i64 0) := (blk_cell BKAa.out 3).trans rfl; have hcz10_4 : w9.cell? ⟨gbAa, 4, none⟩ = some (.int .i64 0) := (blk_cell BKAa.out 4).trans rfl; have hcz10_5 : w9.cell? ⟨gbAa, 5, none⟩ = some (.slice none 0 0) := (blk_cell BKAa.out 5).trans rfl; have hfz10_0 := blk_frozen BKAa.out 0; have hfz10_1 := blk_frozen BKAa.out 1; have hfz10_2 := blk_frozen BKAa.out 2; have hfz10_3 := blk_frozen BKAa.out 3; have hfz10_4 := blk_frozen BKAa.out 4; have hfz10_5 := blk_frozen BKAa.out 5) | ((with_reducible refine gate_callee (f := 26) rfl ?_); refine gL_ 5 Try.func26 #[.agg #[.int .i64 6, .int .i64 4, .int .i64 0, .int .i64 0, .int .i64 0, .slice none 0 0], .agg #[.int .i64 1, .int .i64 0, .int .i64 0, .int .i64 0, .int .i64 0, .slice none 0 0]] ?_; (refine (frame_Text.calls 6 4 0 0 0 _ _ ([] : List Int) 1 0 0 0 0 _ _ ([] : List (S26)) tAe _ ?side1 ?side2 ?side3 ?side4 A1.out).mono ?_); (case side1 => exact Kd.C_nil _ _); (case side2 => exact Nat.le_refl _); (case side3 => exact Kd.C_nil _ _); (case side4 => exact Nat.le_refl _); rintro e w11 ⟨rfl, hb⟩; refine ⟨_, rfl, ?_⟩; have n0_ := Aside0.mk (blk_below (g := gbAa) (o := .cells #[.int .i64 6, .int .i64 4, .int .i64 0, .int .i64 0, .int .i64 0, .slice none 0 0] 24 (0, 0)) (by (with_reducible repeat (first | refine blk_drewN ?_ _ | refine blk_drew ?_ | refine blk_alloc ?_ _)); refine blk_put (cs := #[.int .i64 6, .int .i64 4, .int .i64 0, .int .i64 0, .int .i64 0, .slice none 0 0]) ?_ 5 _ rfl; (with_reducible repeat (first | refine blk_drewN ?_ _ | refine blk_drew ?_ | refine blk_alloc ?_ _)); refine blk_put (cs := #[.int .i64 6, .int .i64 4, .int .i64 0, .int .i64 0, .int .i64 0, .slice none 0 0]) ?_ 4 _ rfl; (with_reducible repeat (first | refine blk_drewN ?_ _ | refine blk_drew ?_ | refine blk_alloc ?_ _)); refine blk_put (cs := #[.int .i64 6, .int .i64 4, .int .i64 0, .int .i64 0, .int .i64 0, .slice none 0 0]) ?_ 3 _ rfl; (with_reducible repeat (first | refine blk_drewN ?_ _ | refine blk_drew ?_ | refine blk_alloc ?_ _)); refine blk_put (cs := #[.int .i64 6, .int .i64 4, .int .i64 0, .int .i64 0, .int .i64 0, .slice none 0 0]) ?_ 2 _ rfl; (with_reducible repeat (first | refine blk_drewN ?_ _ | refine blk_drew ?_ | refine blk_alloc ?_ _)); refine blk_put (cs := #[.int .i64 6, .int .i64 0, .int .i64 0, .int .i64 0, .int .i64 0, .slice none 0 0]) ?_ 1 _ rfl; (with_reducible repeat (first | refine blk_drewN ?_ _ | refine blk_drew ?_ | refine blk_alloc ?_ _)); refine blk_put (cs := #[.int .i64 0, .int .i64 0, .int .i64 0, .int .i64 0, .int .i64 0, .slice none 0 0]) ?_ 0 _ rfl; (with_reducible repeat (first | refine blk_drewN ?_ _ | refine blk_drew ?_ | refine blk_alloc ?_ _)); exact BKAa.out) hb); have n1_ := Aside0.mk (below_step (by repeat (first | (with_reducible first | exact HB.out | apply below_alloc | apply pw_below_drewN | apply below_drew1 | refine below_set ?_ GEAa.out) | exact HB.out)) hb); clear BKAa; clear HB; have BKAa := n0_; have HB := n1_; clear n0_ n1_; (try clear hb); (try clear hb2); (try clear hk); (try clear hi)))
  go_ret
  exact ⟨by first | rfl | (simp [errW_none, errW_some] <;> rfl) | (simp [*, errW_none, errW_some] <;> rfl), by repeat (first | (with_reducible first | exact HB.out | apply below_alloc | apply pw_below_drewN | apply below_drew1 | refine below_set ?_ GEAa.out) | exact HB.out)⟩
def plaitinglaw5_Few.f (a0_0 : Int) (a0_1 : Int) (a0_2 : Int) (a0_3 : Int) (a0_4 : Int) (l0_5 : List (S26)) : Option (Bool) := some (decide ((l0_5.length : Int) ≤ 30))
set_option maxHeartbeats 8000000 in
set_option maxRecDepth 100000 in
theorem plaitinglaw5_Few.calls (a0_0 : Int) (a0_1 : Int) (a0_2 : Int) (a0_3 : Int) (a0_4 : Int) (A0_5 : Option Addr) (c0_5 : Nat) (l0_5 : List (S26)) (r : Bool) (w : World) (hr0_5 : Kd.C k26 w A0_5 l0_5.length l0_5) (hc0_5 : l0_5.length ≤ c0_5) (h : plaitinglaw5_Few.f a0_0 a0_1 a0_2 a0_3 a0_4 l0_5 = some r) :
  Calls Try.prog 19 #[.agg #[.int .i64 a0_0, .int .i64 a0_1, .int .i64 a0_2, .int .i64 a0_3, .int .i64 a0_4, .slice A0_5 l0_5.length c0_5]] w fun e w' => e = .returned (.bool r) ∧ Below w.heap.size w w' := by
 have hu29 := Try.underlying29
 have HR0_5 := Aside0.mk hr0_5
 have HC0_5 := Aside0.mk hc0_5
 clear hr0_5 hc0_5
 have HB := Aside0.mk (Below.refl w.heap.size w)
 have H : (some (decide ((l0_5.length : Int) ≤ 30))) = some r := h
 clear h
 obtain rfl := Option.some.inj H
 go_enter Try.func19, Try.ntmps19
 go_wp2_with (first | ((with_reducible refine gate_dst (N := 1) rfl ?_); refine box_event ?hg (N := 1) ?hd (cs := #[.int .i64 a0_0, .int .i64 a0_1, .int .i64 a0_2, .int .i64 a0_3, .int .i64 a0_4, .slice A0_5 l0_5.length c0_5]) (t := 29) ?hr ?_; (case hd => rfl); (case hg => rfl); (case hr => first | (go_simp; done) | (go_simp; rfl)); intro gbAd hg w2 hbox hb; have n0_ := Aside0.mk (below_step (by repeat (first | (with_reducible first | exact HB.out | apply below_alloc | apply pw_below_drewN | apply below_drew1) | exact HB.out)) hb); have n1_ := Aside0.mk (hbox); have n2_ := Aside0.mk ((by rw [hg]; exact (below_size (by repeat (first | (with_reducible first | exact HB.out | apply below_alloc | apply pw_below_drewN | apply below_drew1) | exact HB.out))) : w.heap.size ≤ gbAd)); have n3_ := Aside0.mk ((by rw [hg]; exact (below_size (by repeat (first | (with_reducible first | exact HB.out | apply below_alloc | apply pw_below_drewN | apply below_drew1) | exact HB.out))) : w.heap.size ≤ gbAd)); clear HB; have HB := n0_; have BKAd := n1_; have GWAd := n2_; have GEAd := n3_; clear n0_ n1_ n2_ n3_; clear hb hbox hg; have hcz3_0 : w2.cell? ⟨gbAd, 0, none⟩ = some (.int .i64 a0_0) := (blk_cell BKAd.out 0).trans rfl; have hcz3_1 : w2.cell? ⟨gbAd, 1, none⟩ = some (.int .i64 a0_1) := (blk_cell BKAd.out 1).trans rfl; have hcz3_2 : w2.cell? ⟨gbAd, 2, none⟩ = some (.int .i64 a0_2) := (blk_cell BKAd.out 2).trans rfl; have hcz3_3 : w2.cell? ⟨gbAd, 3, none⟩ = some (.int .i64 a0_3) := (blk_cell BKAd.out 3).trans rfl; have hcz3_4 : w2.cell? ⟨gbAd, 4, none⟩ = some (.int .i64 a0_4) := (blk_cell BKAd.out 4).trans rfl; have hcz3_5 : w2.cell? ⟨gbAd, 5, none⟩ = some (.slice A0_5 l0_5.length c0_5) := (blk_cell BKAd.out 5).trans rfl; have hfz3_0 := blk_frozen BKAd.out 0; have hfz3_1 := blk_frozen BKAd.out 1; have hfz3_2 := blk_frozen BKAd.out 2; have hfz3_3 := blk_frozen BKAd.out 3; have hfz3_4 := blk_frozen BKAd.out 4; have hfz3_5 := blk_frozen BKAd.out 5))
 go_ret
 exact ⟨by first | rfl | (simp [errW_none, errW_some] <;> rfl) | (simp [*, errW_none, errW_some] <;> rfl), by repeat (first | (with_reducible first | exact HB.out | apply below_alloc | apply pw_below_drewN | apply below_drew1 | refine below_set ?_ GEAd.out) | exact HB.out)⟩
def plaitinglaw5_within.f (a0 : Int) (a1 : Int) : Option (Int) := if a1 = 0 then (none) else (if (Int.tmod a0 a1) < 0 then (some (wrap64 ((Int.tmod a0 a1) + a1))) else (some (Int.tmod a0 a1)))
set_option maxHeartbeats 8000000 in
set_option maxRecDepth 100000 in
theorem plaitinglaw5_within.calls (a0 : Int) (a1 : Int) (r : Int) (w : World) (h : plaitinglaw5_within.f a0 a1 = some r) :
  Calls Try.prog 24 #[.int .i64 a0, .int .i64 a1] w fun e w' => e = .returned (.int .i64 r) ∧ Drawn0 w w' := by
 have H : (if a1 = 0 then (none) else (if (Int.tmod a0 a1) < 0 then (some (wrap64 ((Int.tmod a0 a1) + a1))) else (some (Int.tmod a0 a1)))) = some r := h
 clear h
 by_cases c3 : a1 = 0
 ·
  rw [if_pos c3] at H
  exact absurd H (by simp)
 ·
  rw [if_neg c3] at H
  have c3b0 : (a1 == 0) = false := beq_eq_false_iff_ne.mpr c3
  have c3b1 : (a1 != 0) = true := bne_iff_ne.mpr c3
  by_cases c4 : (Int.tmod a0 a1) < 0
  ·
   rw [if_pos c4] at H
   have c4b0 : decide ((Int.tmod a0 a1) < 0) = true := decide_eq_true c4
   clear c4
   obtain rfl := Option.some.inj H
   go_enter Try.func24, Try.ntmps24
   go_wp2
   go_ret
   exact ⟨by first | rfl | (simp; done) | (simp [*]; done), by repeat (first | exact Drawn0.refl _ | apply Drawn0.step)⟩
  ·
   rw [if_neg c4] at H
   have c4b0 : decide ((Int.tmod a0 a1) < 0) = false := decide_eq_false c4
   clear c4
   obtain rfl := Option.some.inj H
   go_enter Try.func24, Try.ntmps24
   go_wp2
   go_ret
   exact ⟨by first | rfl | (simp; done) | (simp [*]; done), by repeat (first | exact Drawn0.refl _ | apply Drawn0.step)⟩
def plaitinglaw5_Item.j0 : Nat → Int → Int → Bool → Option (Int × Int)
 | 0, _, _, _ => none
 | k + 1, x0, x5, x12 => if x12 = true then (if 2 = 2 then ((plaitinglaw5_within.f (wrap64 (Int.tdiv x0 3)) 256).bind fun tAg => (some (2, tAg))) else (some (2, 0))) else (if x5 = 2 then ((plaitinglaw5_within.f (wrap64 (Int.tdiv x0 3)) 256).bind fun tAh => (some (x5, tAh))) else (some (x5, 0)))
def plaitinglaw5_Item.f (k : Nat) (a0 : Int) (a1 : Bool) : Option (Int × Int) := (plaitinglaw5_within.f a0 3).bind fun tAc => (if a1 = true then (plaitinglaw5_Item.j0 k a0 tAc (tAc == 0)) else (plaitinglaw5_Item.j0 k a0 tAc false))
set_option maxHeartbeats 8000000 in
set_option maxRecDepth 100000 in
theorem plaitinglaw5_Item.calls (k : Nat) (a0 : Int) (a1 : Bool) (r1 : Int) (r2 : Int) (w : World) (h : plaitinglaw5_Item.f k a0 a1 = some (r1, r2)) :
  Calls Try.prog 46 #[.int .i64 a0, .bool a1] w fun e w' => e = .returned (.agg #[.int .i64 r1, .int .i64 r2]) ∧ Below w.heap.size w w' := by
 have hu26 := Try.underlying26
 have HB := Aside0.mk (Below.refl w.heap.size w)
 have H : ((plaitinglaw5_within.f a0 3).bind fun tAc => (if a1 = true then (plaitinglaw5_Item.j0 k a0 tAc (tAc == 0)) else (plaitinglaw5_Item.j0 k a0 tAc false))) = some (r1, r2) := h
 clear h
 replace H := Option.bind_eq_some_iff.mp H
 obtain ⟨tAc, A30, H⟩ := H
 replace H : (if a1 = true then (plaitinglaw5_Item.j0 k a0 tAc (tAc == 0)) else (plaitinglaw5_Item.j0 k a0 tAc false)) = some (r1, r2) := H
 have A3 := Aside0.mk A30
 clear A30
 have HC4 := Aside0.mk H
 clear H
 go_enter Try.func46, Try.ntmps46
 go_upto_region 2 with (first | ((with_reducible refine gate_dst (N := 4) rfl ?_); refine box_event ?hg (N := 4) ?hd (cs := #[.int .i64 0, .int .i64 0]) (t := 26) ?hr ?_; (case hd => rfl); (case hg => rfl); (case hr => first | (go_simp; done) | (go_simp; rfl)); intro gbAb hg w5 hbox hb; have n0_ := Aside0.mk (below_step (by repeat (first | (with_reducible first | exact HB.out | apply below_alloc | apply pw_below_drewN | apply below_drew1) | exact HB.out)) hb); have n1_ := Aside0.mk (hbox); have n2_ := Aside0.mk ((by rw [hg]; exact (below_size (by repeat (first | (with_reducible first | exact HB.out | apply below_alloc | apply pw_below_drewN | apply below_drew1) | exact HB.out))) : w.heap.size ≤ gbAb)); have n3_ := Aside0.mk ((by rw [hg]; exact (below_size (by repeat (first | (with_reducible first | exact HB.out | apply below_alloc | apply pw_below_drewN | apply below_drew1) | exact HB.out))) : w.heap.size ≤ gbAb)); clear HB; have HB := n0_; have BKAb := n1_; have GWAb := n2_; have GEAb := n3_; clear n0_ n1_ n2_ n3_; clear hb hbox hg) | ((with_reducible refine gate_callee (f := 24) rfl ?_); refine gL_ 7 Try.func24 #[.int .i64 a0, .int .i64 3] ?_; (with_reducible refine (plaitinglaw5_within.calls a0 3 tAc _ A3.out).mono ?_); rintro e w' ⟨rfl, ⟨nd, rfl⟩⟩; refine ⟨_, rfl, ?_⟩))
 (try simp only [Act.put, List.setIfInBounds_toArray, List.set_cons_zero, List.set_cons_succ])
 go_cut [12] (fun v12 wc => ∃ (kq : Nat) (x12_3 : Bool), v12 = .bool x12_3 ∧ Aside0 (plaitinglaw5_Item.j0 kq a0 tAc x12_3 = some (r1, r2)) ∧ Aside0 (kq ≤ k) ∧ Aside0 (wc.heap[gbAb]? = some (.cells #[.int .i64 0, .int .i64 0] 26 (0, 0))) ∧ Aside0 (Below w.heap.size w wc))
 case first =>
  have H := HC4.out
  clear HC4
  by_cases c6 : a1 = true
  ·
   subst c6
   have H1 : (plaitinglaw5_Item.j0 k a0 tAc (tAc == 0)) = some (r1, r2) := by rw [if_pos rfl] at H; exact H
   clear H
   have H := H1
   clear H1
   have H' := Aside0.mk H
   clear H
   go_wp2
   go_meet
   case rel => exact ⟨_, ((tAc == 0)), (by first | rfl | (simp; done) | (simp [*]; done)), H', ⟨by first | omega | exact Nat.le_refl _⟩, ⟨by (with_reducible repeat (first | refine blk_drewN ?_ _ | refine blk_drew ?_ | refine blk_alloc ?_ _)); exact BKAb.out⟩, ⟨by repeat (first | (with_reducible first | exact HB.out | apply below_alloc | apply pw_below_drewN | apply below_drew1 | refine below_set ?_ GEAb.out) | exact HB.out)⟩⟩
  ·
   replace c6 := Bool.eq_false_iff.mpr c6
   subst c6
   have H1 : (plaitinglaw5_Item.j0 k a0 tAc false) = some (r1, r2) := by rw [if_neg (show ¬ (false = true) by decide)] at H; exact H
   clear H
   have H := H1
   clear H1
   have H' := Aside0.mk H
   clear H
   go_wp2
   go_meet
   case rel => exact ⟨_, (false), (by first | rfl | (simp; done) | (simp [*]; done)), H', ⟨by first | omega | exact Nat.le_refl _⟩, ⟨by (with_reducible repeat (first | refine blk_drewN ?_ _ | refine blk_drew ?_ | refine blk_alloc ?_ _)); exact BKAb.out⟩, ⟨by repeat (first | (with_reducible first | exact HB.out | apply below_alloc | apply pw_below_drewN | apply below_drew1 | refine below_set ?_ GEAb.out) | exact HB.out)⟩⟩
 case rest =>
  clear HC4
  try clear c2
  try clear p2
  try clear c4
  try clear c6
  obtain ⟨kq, x12_3, rfl, HA, HJ3, BKAb, HB⟩ := hcut
  cases kq with
  | zero => exact absurd HA.out (by simp [plaitinglaw5_Item.j0])
  | succ kj3 =>
   have H := HA.out
   clear HA
   simp only [plaitinglaw5_Item.j0] at H
   by_cases c7 : x12_3 = true
   ·
    subst c7
    have H1 : (if 2 = 2 then ((plaitinglaw5_within.f (wrap64 (Int.tdiv a0 3)) 256).bind fun tAg => (some (2, tAg))) else (some (2, 0))) = some (r1, r2) := by rw [if_pos rfl] at H; exact H
    clear H
    have H := H1
    clear H1
    by_cases c8 : 2 = 2
    ·
     rw [if_pos c8] at H
     have c8b0 : (2 == 2) = true := beq_iff_eq.mpr c8
     have c8b1 : (2 != 2) = false := bne_eq_false_iff_eq.mpr c8
     clear c8
     replace H := Option.bind_eq_some_iff.mp H
     obtain ⟨tAg, A90, H⟩ := H
     replace H : (some (2, tAg)) = some (r1, r2) := H
     have A9 := Aside0.mk A90
     clear A90
     simp only [Option.some.injEq, Prod.mk.injEq] at H
     obtain ⟨rfl, rfl⟩ := H
     go_wp2_with (first | ((with_reducible refine gate_callee (f := 24) rfl ?_); refine gL_ 18 Try.func24 #[.int .i64 (wrap64 (Int.tdiv a0 3)), .int .i64 256] ?_; (with_reducible refine (plaitinglaw5_within.calls (wrap64 (Int.tdiv a0 3)) 256 tAg _ A9.out).mono ?_); rintro e w' ⟨rfl, ⟨nd, rfl⟩⟩; refine ⟨_, rfl, ?_⟩; (try (rw [drewN_self wc]; generalize hq_ : World.drewN wc _ = wc; have n0_ : Aside0 (wc.heap[gbAb]? = some (.cells #[.int .i64 0, .int .i64 0] 26 (0, 0))) := ⟨by rw [← hq_]; exact (by (with_reducible repeat (first | refine blk_drewN ?_ _ | refine blk_drew ?_ | refine blk_alloc ?_ _)); exact BKAb.out)⟩; have n1_ : Aside0 (Below w.heap.size w wc) := ⟨by rw [← hq_]; exact (by repeat (first | (with_reducible first | exact HB.out | apply below_alloc | apply pw_below_drewN | apply below_drew1 | refine below_set ?_ GEAb.out) | exact HB.out))⟩; clear BKAb HB hq_; have BKAb := n0_; have HB := n1_; clear n0_ n1_)); have hcz10_0 : wc.cell? ⟨gbAb, 0, none⟩ = some (.int .i64 0) := (blk_cell BKAb.out 0).trans rfl; have hcz10_1 : wc.cell? ⟨gbAb, 1, none⟩ = some (.int .i64 0) := (blk_cell BKAb.out 1).trans rfl; have hfz10_0 := blk_frozen BKAb.out 0; have hfz10_1 := blk_frozen BKAb.out 1))
     refine bodyPost_ret (results_cell_row rfl _ _ gbAb 26 #[.int .i64 2, .int .i64 tAg] (0, 0) _ rfl (by (with_reducible repeat (first | refine blk_drewN ?_ _ | refine blk_drew ?_ | refine blk_alloc ?_ _)); refine blk_put (cs := #[.int .i64 2, .int .i64 0]) ?_ 1 _ rfl; (with_reducible repeat (first | refine blk_drewN ?_ _ | refine blk_drew ?_ | refine blk_alloc ?_ _)); refine blk_put (cs := #[.int .i64 0, .int .i64 0]) ?_ 0 _ rfl; (with_reducible repeat (first | refine blk_drewN ?_ _ | refine blk_drew ?_ | refine blk_alloc ?_ _)); exact BKAb.out) Try.underlying26 rfl (by kernel_rfl)) rfl ?_
     exact ⟨by first | rfl | (simp [errW_none, errW_some] <;> rfl) | (simp [*, errW_none, errW_some] <;> rfl), by repeat (first | (with_reducible first | exact HB.out | apply below_alloc | apply pw_below_drewN | apply below_drew1 | refine below_set ?_ GEAb.out) | exact HB.out)⟩
    · exact absurd rfl c8
   ·
    replace c7 := Bool.eq_false_iff.mpr c7
    subst c7
    have H1 : (if tAc = 2 then ((plaitinglaw5_within.f (wrap64 (Int.tdiv a0 3)) 256).bind fun tAh => (some (tAc, tAh))) else (some (tAc, 0))) = some (r1, r2) := by rw [if_neg (show ¬ (false = true) by decide)] at H; exact H
    clear H
    have H := H1
    clear H1
    by_cases c12 : tAc = 2
    ·
     rw [if_pos c12] at H
     have c12b0 : (tAc == 2) = true := beq_iff_eq.mpr c12
     have c12b1 : (tAc != 2) = false := bne_eq_false_iff_eq.mpr c12
     clear c12
     replace H := Option.bind_eq_some_iff.mp H
     obtain ⟨tAh, A130, H⟩ := H
     replace H : (some (tAc, tAh)) = some (r1, r2) := H
     have A13 := Aside0.mk A130
     clear A130
     simp only [Option.some.injEq, Prod.mk.injEq] at H
     obtain ⟨rfl, rfl⟩ := H
     go_wp2_with (first | ((with_reducible refine gate_callee (f := 24) rfl ?_); refine gL_ 18 Try.func24 #[.int .i64 (wrap64 (Int.tdiv a0 3)), .int .i64 256] ?_; (with_reducible refine (plaitinglaw5_within.calls (wrap64 (Int.tdiv a0 3)) 256 tAh _ A13.out).mono ?_); rintro e w' ⟨rfl, ⟨nd, rfl⟩⟩; refine ⟨_, rfl, ?_⟩; (try (rw [drewN_self wc]; generalize hq_ : World.drewN wc _ = wc; have n0_ : Aside0 (wc.heap[gbAb]? = some (.cells #[.int .i64 0, .int .i64 0] 26 (0, 0))) := ⟨by rw [← hq_]; exact (by (with_reducible repeat (first | refine blk_drewN ?_ _ | refine blk_drew ?_ | refine blk_alloc ?_ _)); exact BKAb.out)⟩; have n1_ : Aside0 (Below w.heap.size w wc) := ⟨by rw [← hq_]; exact (by repeat (first | (with_reducible first | exact HB.out | apply below_alloc | apply pw_below_drewN | apply below_drew1 | refine below_set ?_ GEAb.out) | exact HB.out))⟩; clear BKAb HB hq_; have BKAb := n0_; have HB := n1_; clear n0_ n1_)); have hcz14_0 : wc.cell? ⟨gbAb, 0, none⟩ = some (.int .i64 0) := (blk_cell BKAb.out 0).trans rfl; have hcz14_1 : wc.cell? ⟨gbAb, 1, none⟩ = some (.int .i64 0) := (blk_cell BKAb.out 1).trans rfl; have hfz14_0 := blk_frozen BKAb.out 0; have hfz14_1 := blk_frozen BKAb.out 1))
     refine bodyPost_ret (results_cell_row rfl _ _ gbAb 26 #[.int .i64 tAc, .int .i64 tAh] (0, 0) _ rfl (by (with_reducible repeat (first | refine blk_drewN ?_ _ | refine blk_drew ?_ | refine blk_alloc ?_ _)); refine blk_put (cs := #[.int .i64 tAc, .int .i64 0]) ?_ 1 _ rfl; (with_reducible repeat (first | refine blk_drewN ?_ _ | refine blk_drew ?_ | refine blk_alloc ?_ _)); refine blk_put (cs := #[.int .i64 0, .int .i64 0]) ?_ 0 _ rfl; (with_reducible repeat (first | refine blk_drewN ?_ _ | refine blk_drew ?_ | refine blk_alloc ?_ _)); exact BKAb.out) Try.underlying26 rfl (by kernel_rfl)) rfl ?_
     exact ⟨by first | rfl | (simp [errW_none, errW_some] <;> rfl) | (simp [*, errW_none, errW_some] <;> rfl), by repeat (first | (with_reducible first | exact HB.out | apply below_alloc | apply pw_below_drewN | apply below_drew1 | refine below_set ?_ GEAb.out) | exact HB.out)⟩
    ·
     rw [if_neg c12] at H
     have c12b0 : (tAc == 2) = false := beq_eq_false_iff_ne.mpr c12
     have c12b1 : (tAc != 2) = true := bne_iff_ne.mpr c12
     simp only [Option.some.injEq, Prod.mk.injEq] at H
     obtain ⟨rfl, rfl⟩ := H
     have hcz15_0 : wc.cell? ⟨gbAb, 0, none⟩ = some (.int .i64 0) := (blk_cell BKAb.out 0).trans rfl
     have hcz15_1 : wc.cell? ⟨gbAb, 1, none⟩ = some (.int .i64 0) := (blk_cell BKAb.out 1).trans rfl
     have hfz15_0 := blk_frozen BKAb.out 0
     have hfz15_1 := blk_frozen BKAb.out 1
     go_wp2
     refine bodyPost_ret (results_cell_row rfl _ _ gbAb 26 #[.int .i64 tAc, .int .i64 0] (0, 0) _ rfl (by (with_reducible repeat (first | refine blk_drewN ?_ _ | refine blk_drew ?_ | refine blk_alloc ?_ _)); refine blk_put (cs := #[.int .i64 tAc, .int .i64 0]) ?_ 1 _ rfl; (with_reducible repeat (first | refine blk_drewN ?_ _ | refine blk_drew ?_ | refine blk_alloc ?_ _)); refine blk_put (cs := #[.int .i64 0, .int .i64 0]) ?_ 0 _ rfl; (with_reducible repeat (first | refine blk_drewN ?_ _ | refine blk_drew ?_ | refine blk_alloc ?_ _)); exact BKAb.out) Try.underlying26 rfl (by kernel_rfl)) rfl ?_
     exact ⟨by first | rfl | (simp [errW_none, errW_some] <;> rfl) | (simp [*, errW_none, errW_some] <;> rfl), by repeat (first | (with_reducible first | exact HB.out | apply below_alloc | apply pw_below_drewN | apply below_drew1 | refine below_set ?_ GEAb.out) | exact HB.out)⟩
end Go.Proofs.Ytcpohmfkmgcjkaa.P
