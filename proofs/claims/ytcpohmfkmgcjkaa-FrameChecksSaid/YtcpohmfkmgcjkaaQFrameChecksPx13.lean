/- Printed by a program of this session (myprint) out of the translation: the functions as plain Lean functions, and that the calls compute them. What counts is Lean's check. -/
import Derived.Test.YtcpohmfkmgcjkaaQFrameChecksPx0
import Derived.Test.YtcpohmfkmgcjkaaQFrameChecksPx11
import Derived.Test.YtcpohmfkmgcjkaaQFrameChecksPx15
import Derived.Test.YtcpohmfkmgcjkaaQFrameChecksPx19
import Derived.Test.YtcpohmfkmgcjkaaQFrameChecksPx39
import Derived.Test.YtcpohmfkmgcjkaaQFrameChecksShort
namespace Go.Proofs.Ytcpohmfkmgcjkaa.P
open Go.RowKit Go.Proofs.YtcpohmfkmgcjkaaW.PrintWords Go.Proofs.YtcpohmfkmgcjkaaW.PrintLast Go.Proofs.YtcpohmfkmgcjkaaW.PrintMore
attribute [local go_sem] max2_int min2_int max_two min_two max_three min_three max_four min_four
set_option linter.unusedVariables false
set_option linter.unusedSimpArgs false
attribute [-simp] ByteArray.size_extract ByteArray.size_append ByteArray.extract_append_extract
attribute [-go_sem] ByteArray.size_append'
attribute [local go_sem high] eqA26
def plaitingref5_item.f (a0_0 : Int) (a0_1 : Int) (a1 : Bool) : Option (Bool) := if a0_0 = 0 then (if a0_1 = 0 then (some (!a1)) else (some false)) else (if a0_0 = 1 then (some (a0_1 == 0)) else (if a0_0 = 2 then (if a0_1 ≥ 0 then (some (decide (a0_1 ≤ 255))) else (some false)) else (some false)))
set_option maxHeartbeats 8000000 in
set_option maxRecDepth 100000 in
theorem plaitingref5_item.calls (a0_0 : Int) (a0_1 : Int) (a1 : Bool) (r : Bool) (w : World) (h : plaitingref5_item.f a0_0 a0_1 a1 = some r) :
  Calls Try.prog 53 #[.agg #[.int .i64 a0_0, .int .i64 a0_1], .bool a1] w fun e w' => e = .returned (.bool r) ∧ Below w.heap.size w w' := by
 have hu26 := Try.underlying26
 have HB := Aside0.mk (Below.refl w.heap.size w)
 have H : (if a0_0 = 0 then (if a0_1 = 0 then (some (!a1)) else (some false)) else (if a0_0 = 1 then (some (a0_1 == 0)) else (if a0_0 = 2 then (if a0_1 ≥ 0 then (some (decide (a0_1 ≤ 255))) else (some false)) else (some false)))) = some r := h
 clear h
 by_cases c3 : a0_0 = 0
 ·
  rw [if_pos c3] at H
  have c3b0 : (a0_0 == 0) = true := beq_iff_eq.mpr c3
  have c3b1 : (a0_0 != 0) = false := bne_eq_false_iff_eq.mpr c3
  clear c3
  by_cases c4 : a0_1 = 0
  ·
   rw [if_pos c4] at H
   have c4b0 : (a0_1 == 0) = true := beq_iff_eq.mpr c4
   have c4b1 : (a0_1 != 0) = false := bne_eq_false_iff_eq.mpr c4
   clear c4
   obtain rfl := Option.some.inj H
   go_enter Try.func53, Try.ntmps53
   go_wp2_with (first | ((with_reducible refine gate_dst (N := 2) rfl ?_); refine box_event ?hg (N := 2) ?hd (cs := #[.int .i64 a0_0, .int .i64 a0_1]) (t := 26) ?hr ?_; (case hd => rfl); (case hg => rfl); (case hr => first | (go_simp; done) | (go_simp; rfl)); intro gbAd hg w5 hbox hb; have n0_ := Aside0.mk (below_step (by repeat (first | (with_reducible first | exact HB.out | apply below_alloc | apply pw_below_drewN | apply below_drew1) | exact HB.out)) hb); have n1_ := Aside0.mk (hbox); have n2_ := Aside0.mk ((by rw [hg]; exact (below_size (by repeat (first | (with_reducible first | exact HB.out | apply below_alloc | apply pw_below_drewN | apply below_drew1) | exact HB.out))) : w.heap.size ≤ gbAd)); have n3_ := Aside0.mk ((by rw [hg]; exact (below_size (by repeat (first | (with_reducible first | exact HB.out | apply below_alloc | apply pw_below_drewN | apply below_drew1) | exact HB.out))) : w.heap.size ≤ gbAd)); clear HB; have HB := n0_; have BKAd := n1_; have GWAd := n2_; have GEAd := n3_; clear n0_ n1_ n2_ n3_; clear hb hbox hg; have hcz6_0 : w5.cell? ⟨gbAd, 0, none⟩ = some (.int .i64 a0_0) := (blk_cell BKAd.out 0).trans rfl; have hcz6_1 : w5.cell? ⟨gbAd, 1, none⟩ = some (.int .i64 a0_1) := (blk_cell BKAd.out 1).trans rfl; have hfz6_0 := blk_frozen BKAd.out 0; have hfz6_1 := blk_frozen BKAd.out 1))
   go_ret
   exact ⟨by first | rfl | (simp [errW_none, errW_some] <;> rfl) | (simp [*, errW_none, errW_some] <;> rfl), by repeat (first | (with_reducible first | exact HB.out | apply below_alloc | apply pw_below_drewN | apply below_drew1 | refine below_set ?_ GEAd.out) | exact HB.out)⟩
  ·
   rw [if_neg c4] at H
   have c4b0 : (a0_1 == 0) = false := beq_eq_false_iff_ne.mpr c4
   have c4b1 : (a0_1 != 0) = true := bne_iff_ne.mpr c4
   obtain rfl := Option.some.inj H
   go_enter Try.func53, Try.ntmps53
   go_wp2_with (first | ((with_reducible refine gate_dst (N := 2) rfl ?_); refine box_event ?hg (N := 2) ?hd (cs := #[.int .i64 a0_0, .int .i64 a0_1]) (t := 26) ?hr ?_; (case hd => rfl); (case hg => rfl); (case hr => first | (go_simp; done) | (go_simp; rfl)); intro gbAd hg w7 hbox hb; have n0_ := Aside0.mk (below_step (by repeat (first | (with_reducible first | exact HB.out | apply below_alloc | apply pw_below_drewN | apply below_drew1) | exact HB.out)) hb); have n1_ := Aside0.mk (hbox); have n2_ := Aside0.mk ((by rw [hg]; exact (below_size (by repeat (first | (with_reducible first | exact HB.out | apply below_alloc | apply pw_below_drewN | apply below_drew1) | exact HB.out))) : w.heap.size ≤ gbAd)); have n3_ := Aside0.mk ((by rw [hg]; exact (below_size (by repeat (first | (with_reducible first | exact HB.out | apply below_alloc | apply pw_below_drewN | apply below_drew1) | exact HB.out))) : w.heap.size ≤ gbAd)); clear HB; have HB := n0_; have BKAd := n1_; have GWAd := n2_; have GEAd := n3_; clear n0_ n1_ n2_ n3_; clear hb hbox hg; have hcz8_0 : w7.cell? ⟨gbAd, 0, none⟩ = some (.int .i64 a0_0) := (blk_cell BKAd.out 0).trans rfl; have hcz8_1 : w7.cell? ⟨gbAd, 1, none⟩ = some (.int .i64 a0_1) := (blk_cell BKAd.out 1).trans rfl; have hfz8_0 := blk_frozen BKAd.out 0; have hfz8_1 := blk_frozen BKAd.out 1))
   go_ret
   exact ⟨by first | rfl | (simp [errW_none, errW_some] <;> rfl) | (simp [*, errW_none, errW_some] <;> rfl), by repeat (first | (with_reducible first | exact HB.out | apply below_alloc | apply pw_below_drewN | apply below_drew1 | refine below_set ?_ GEAd.out) | exact HB.out)⟩
 ·
  rw [if_neg c3] at H
  have c3b0 : (a0_0 == 0) = false := beq_eq_false_iff_ne.mpr c3
  have c3b1 : (a0_0 != 0) = true := bne_iff_ne.mpr c3
  by_cases c9 : a0_0 = 1
  ·
   rw [if_pos c9] at H
   have c9b0 : (a0_0 == 1) = true := beq_iff_eq.mpr c9
   have c9b1 : (a0_0 != 1) = false := bne_eq_false_iff_eq.mpr c9
   clear c9
   obtain rfl := Option.some.inj H
   go_enter Try.func53, Try.ntmps53
   go_wp2_with (first | ((with_reducible refine gate_dst (N := 2) rfl ?_); refine box_event ?hg (N := 2) ?hd (cs := #[.int .i64 a0_0, .int .i64 a0_1]) (t := 26) ?hr ?_; (case hd => rfl); (case hg => rfl); (case hr => first | (go_simp; done) | (go_simp; rfl)); intro gbAd hg w10 hbox hb; have n0_ := Aside0.mk (below_step (by repeat (first | (with_reducible first | exact HB.out | apply below_alloc | apply pw_below_drewN | apply below_drew1) | exact HB.out)) hb); have n1_ := Aside0.mk (hbox); have n2_ := Aside0.mk ((by rw [hg]; exact (below_size (by repeat (first | (with_reducible first | exact HB.out | apply below_alloc | apply pw_below_drewN | apply below_drew1) | exact HB.out))) : w.heap.size ≤ gbAd)); have n3_ := Aside0.mk ((by rw [hg]; exact (below_size (by repeat (first | (with_reducible first | exact HB.out | apply below_alloc | apply pw_below_drewN | apply below_drew1) | exact HB.out))) : w.heap.size ≤ gbAd)); clear HB; have HB := n0_; have BKAd := n1_; have GWAd := n2_; have GEAd := n3_; clear n0_ n1_ n2_ n3_; clear hb hbox hg; have hcz11_0 : w10.cell? ⟨gbAd, 0, none⟩ = some (.int .i64 a0_0) := (blk_cell BKAd.out 0).trans rfl; have hcz11_1 : w10.cell? ⟨gbAd, 1, none⟩ = some (.int .i64 a0_1) := (blk_cell BKAd.out 1).trans rfl; have hfz11_0 := blk_frozen BKAd.out 0; have hfz11_1 := blk_frozen BKAd.out 1))
   go_ret
   exact ⟨by first | rfl | (simp [errW_none, errW_some] <;> rfl) | (simp [*, errW_none, errW_some] <;> rfl), by repeat (first | (with_reducible first | exact HB.out | apply below_alloc | apply pw_below_drewN | apply below_drew1 | refine below_set ?_ GEAd.out) | exact HB.out)⟩
  ·
   rw [if_neg c9] at H
   have c9b0 : (a0_0 == 1) = false := beq_eq_false_iff_ne.mpr c9
   have c9b1 : (a0_0 != 1) = true := bne_iff_ne.mpr c9
   by_cases c12 : a0_0 = 2
   ·
    rw [if_pos c12] at H
    have c12b0 : (a0_0 == 2) = true := beq_iff_eq.mpr c12
    have c12b1 : (a0_0 != 2) = false := bne_eq_false_iff_eq.mpr c12
    clear c12
    by_cases c13 : a0_1 ≥ 0
    ·
     rw [if_pos c13] at H
     have c13b0 : decide (0 ≤ a0_1) = true := decide_eq_true c13
     clear c13
     obtain rfl := Option.some.inj H
     go_enter Try.func53, Try.ntmps53
     go_wp2_with (first | ((with_reducible refine gate_dst (N := 2) rfl ?_); refine box_event ?hg (N := 2) ?hd (cs := #[.int .i64 a0_0, .int .i64 a0_1]) (t := 26) ?hr ?_; (case hd => rfl); (case hg => rfl); (case hr => first | (go_simp; done) | (go_simp; rfl)); intro gbAd hg w14 hbox hb; have n0_ := Aside0.mk (below_step (by repeat (first | (with_reducible first | exact HB.out | apply below_alloc | apply pw_below_drewN | apply below_drew1) | exact HB.out)) hb); have n1_ := Aside0.mk (hbox); have n2_ := Aside0.mk ((by rw [hg]; exact (below_size (by repeat (first | (with_reducible first | exact HB.out | apply below_alloc | apply pw_below_drewN | apply below_drew1) | exact HB.out))) : w.heap.size ≤ gbAd)); have n3_ := Aside0.mk ((by rw [hg]; exact (below_size (by repeat (first | (with_reducible first | exact HB.out | apply below_alloc | apply pw_below_drewN | apply below_drew1) | exact HB.out))) : w.heap.size ≤ gbAd)); clear HB; have HB := n0_; have BKAd := n1_; have GWAd := n2_; have GEAd := n3_; clear n0_ n1_ n2_ n3_; clear hb hbox hg; have hcz15_0 : w14.cell? ⟨gbAd, 0, none⟩ = some (.int .i64 a0_0) := (blk_cell BKAd.out 0).trans rfl; have hcz15_1 : w14.cell? ⟨gbAd, 1, none⟩ = some (.int .i64 a0_1) := (blk_cell BKAd.out 1).trans rfl; have hfz15_0 := blk_frozen BKAd.out 0; have hfz15_1 := blk_frozen BKAd.out 1))
     go_ret
     exact ⟨by first | rfl | (simp [errW_none, errW_some] <;> rfl) | (simp [*, errW_none, errW_some] <;> rfl), by repeat (first | (with_reducible first | exact HB.out | apply below_alloc | apply pw_below_drewN | apply below_drew1 | refine below_set ?_ GEAd.out) | exact HB.out)⟩
    ·
     rw [if_neg c13] at H
     have c13b0 : decide (0 ≤ a0_1) = false := decide_eq_false c13
     clear c13
     obtain rfl := Option.some.inj H
     go_enter Try.func53, Try.ntmps53
     go_wp2_with (first | ((with_reducible refine gate_dst (N := 2) rfl ?_); refine box_event ?hg (N := 2) ?hd (cs := #[.int .i64 a0_0, .int .i64 a0_1]) (t := 26) ?hr ?_; (case hd => rfl); (case hg => rfl); (case hr => first | (go_simp; done) | (go_simp; rfl)); intro gbAd hg w16 hbox hb; have n0_ := Aside0.mk (below_step (by repeat (first | (with_reducible first | exact HB.out | apply below_alloc | apply pw_below_drewN | apply below_drew1) | exact HB.out)) hb); have n1_ := Aside0.mk (hbox); have n2_ := Aside0.mk ((by rw [hg]; exact (below_size (by repeat (first | (with_reducible first | exact HB.out | apply below_alloc | apply pw_below_drewN | apply below_drew1) | exact HB.out))) : w.heap.size ≤ gbAd)); have n3_ := Aside0.mk ((by rw [hg]; exact (below_size (by repeat (first | (with_reducible first | exact HB.out | apply below_alloc | apply pw_below_drewN | apply below_drew1) | exact HB.out))) : w.heap.size ≤ gbAd)); clear HB; have HB := n0_; have BKAd := n1_; have GWAd := n2_; have GEAd := n3_; clear n0_ n1_ n2_ n3_; clear hb hbox hg; have hcz17_0 : w16.cell? ⟨gbAd, 0, none⟩ = some (.int .i64 a0_0) := (blk_cell BKAd.out 0).trans rfl; have hcz17_1 : w16.cell? ⟨gbAd, 1, none⟩ = some (.int .i64 a0_1) := (blk_cell BKAd.out 1).trans rfl; have hfz17_0 := blk_frozen BKAd.out 0; have hfz17_1 := blk_frozen BKAd.out 1))
     go_ret
     exact ⟨by first | rfl | (simp [errW_none, errW_some] <;> rfl) | (simp [*, errW_none, errW_some] <;> rfl), by repeat (first | (with_reducible first | exact HB.out | apply below_alloc | apply pw_below_drewN | apply below_drew1 | refine below_set ?_ GEAd.out) | exact HB.out)⟩
   ·
    rw [if_neg c12] at H
    have c12b0 : (a0_0 == 2) = false := beq_eq_false_iff_ne.mpr c12
    have c12b1 : (a0_0 != 2) = true := bne_iff_ne.mpr c12
    obtain rfl := Option.some.inj H
    go_enter Try.func53, Try.ntmps53
    go_wp2_with (first | ((with_reducible refine gate_dst (N := 2) rfl ?_); refine box_event ?hg (N := 2) ?hd (cs := #[.int .i64 a0_0, .int .i64 a0_1]) (t := 26) ?hr ?_; (case hd => rfl); (case hg => rfl); (case hr => first | (go_simp; done) | (go_simp; rfl)); intro gbAd hg w18 hbox hb; have n0_ := Aside0.mk (below_step (by repeat (first | (with_reducible first | exact HB.out | apply below_alloc | apply pw_below_drewN | apply below_drew1) | exact HB.out)) hb); have n1_ := Aside0.mk (hbox); have n2_ := Aside0.mk ((by rw [hg]; exact (below_size (by repeat (first | (with_reducible first | exact HB.out | apply below_alloc | apply pw_below_drewN | apply below_drew1) | exact HB.out))) : w.heap.size ≤ gbAd)); have n3_ := Aside0.mk ((by rw [hg]; exact (below_size (by repeat (first | (with_reducible first | exact HB.out | apply below_alloc | apply pw_below_drewN | apply below_drew1) | exact HB.out))) : w.heap.size ≤ gbAd)); clear HB; have HB := n0_; have BKAd := n1_; have GWAd := n2_; have GEAd := n3_; clear n0_ n1_ n2_ n3_; clear hb hbox hg; have hcz19_0 : w18.cell? ⟨gbAd, 0, none⟩ = some (.int .i64 a0_0) := (blk_cell BKAd.out 0).trans rfl; have hcz19_1 : w18.cell? ⟨gbAd, 1, none⟩ = some (.int .i64 a0_1) := (blk_cell BKAd.out 1).trans rfl; have hfz19_0 := blk_frozen BKAd.out 0; have hfz19_1 := blk_frozen BKAd.out 1))
    go_ret
    exact ⟨by first | rfl | (simp [errW_none, errW_some] <;> rfl) | (simp [*, errW_none, errW_some] <;> rfl), by repeat (first | (with_reducible first | exact HB.out | apply below_alloc | apply pw_below_drewN | apply below_drew1 | refine below_set ?_ GEAd.out) | exact HB.out)⟩
def plaitingref5_echoes.f (a0_0 : Int) (a0_1 : Int) (a0_2 : Int) (a0_3 : Int) (a0_4 : Int) (l0_5 : List Int) (a1 : Int) (a2 : Int) : Option (Int) := if a1 = 3 then (if a2 < a0_0 then ((plaitingref3_Slots.f a0_0 a0_1 a0_2 a0_3 a0_4 l0_5).bind fun tAh => (some tAh)) else (some 0)) else (some 0)
set_option maxHeartbeats 8000000 in
set_option maxRecDepth 100000 in
theorem plaitingref5_echoes.calls (a0_0 : Int) (a0_1 : Int) (a0_2 : Int) (a0_3 : Int) (a0_4 : Int) (A0_5 : Option Addr) (c0_5 : Nat) (l0_5 : List Int) (a1 : Int) (a2 : Int) (r : Int) (w : World) (hr0_5 : Kd.C (Kd.int .i64) w A0_5 l0_5.length l0_5) (hc0_5 : l0_5.length ≤ c0_5) (h : plaitingref5_echoes.f a0_0 a0_1 a0_2 a0_3 a0_4 l0_5 a1 a2 = some r) :
  Calls Try.prog 54 #[.agg #[.int .i64 a0_0, .int .i64 a0_1, .int .i64 a0_2, .int .i64 a0_3, .int .i64 a0_4, .slice A0_5 l0_5.length c0_5], .int .i64 a1, .int .i64 a2] w fun e w' => e = .returned (.int .i64 r) ∧ Below w.heap.size w w' := by
 have hu24 := Try.underlying24
 have HR0_5 := Aside0.mk hr0_5
 have HC0_5 := Aside0.mk hc0_5
 clear hr0_5 hc0_5
 have HB := Aside0.mk (Below.refl w.heap.size w)
 have H : (if a1 = 3 then (if a2 < a0_0 then ((plaitingref3_Slots.f a0_0 a0_1 a0_2 a0_3 a0_4 l0_5).bind fun tAh => (some tAh)) else (some 0)) else (some 0)) = some r := h
 clear h
 by_cases c4 : a1 = 3
 ·
  rw [if_pos c4] at H
  have c4b0 : (a1 == 3) = true := beq_iff_eq.mpr c4
  have c4b1 : (a1 != 3) = false := bne_eq_false_iff_eq.mpr c4
  clear c4
  by_cases c5 : a2 < a0_0
  ·
   rw [if_pos c5] at H
   have c5b0 : decide (a2 < a0_0) = true := decide_eq_true c5
   clear c5
   replace H := Option.bind_eq_some_iff.mp H
   obtain ⟨tAh, A60, H⟩ := H
   replace H : (some tAh) = some r := H
   have A6 := Aside0.mk A60
   clear A60
   obtain rfl := Option.some.inj H
   go_enter Try.func54, Try.ntmps54
   go_wp2_with (first | ((with_reducible refine gate_dst (N := 3) rfl ?_); refine box_event ?hg (N := 3) ?hd (cs := #[.int .i64 a0_0, .int .i64 a0_1, .int .i64 a0_2, .int .i64 a0_3, .int .i64 a0_4, .slice A0_5 l0_5.length c0_5]) (t := 24) ?hr ?_; (case hd => rfl); (case hg => rfl); (case hr => first | (go_simp; done) | (go_simp; rfl)); intro gbAe hg w7 hbox hb; have n0_ := Aside0.mk (below_step (by repeat (first | (with_reducible first | exact HB.out | apply below_alloc | apply pw_below_drewN | apply below_drew1) | exact HB.out)) hb); have n1_ := Aside0.mk (hbox); have n2_ := Aside0.mk ((by rw [hg]; exact (below_size (by repeat (first | (with_reducible first | exact HB.out | apply below_alloc | apply pw_below_drewN | apply below_drew1) | exact HB.out))) : w.heap.size ≤ gbAe)); have n3_ := Aside0.mk ((by rw [hg]; exact (below_size (by repeat (first | (with_reducible first | exact HB.out | apply below_alloc | apply pw_below_drewN | apply below_drew1) | exact HB.out))) : w.heap.size ≤ gbAe)); clear HB; have HB := n0_; have BKAe := n1_; have GWAe := n2_; have GEAe := n3_; clear n0_ n1_ n2_ n3_; clear hb hbox hg; have hcz8_0 : w7.cell? ⟨gbAe, 0, none⟩ = some (.int .i64 a0_0) := (blk_cell BKAe.out 0).trans rfl; have hcz8_1 : w7.cell? ⟨gbAe, 1, none⟩ = some (.int .i64 a0_1) := (blk_cell BKAe.out 1).trans rfl; have hcz8_2 : w7.cell? ⟨gbAe, 2, none⟩ = some (.int .i64 a0_2) := (blk_cell BKAe.out 2).trans rfl; have hcz8_3 : w7.cell? ⟨gbAe, 3, none⟩ = some (.int .i64 a0_3) := (blk_cell BKAe.out 3).trans rfl; have hcz8_4 : w7.cell? ⟨gbAe, 4, none⟩ = some (.int .i64 a0_4) := (blk_cell BKAe.out 4).trans rfl; have hcz8_5 : w7.cell? ⟨gbAe, 5, none⟩ = some (.slice A0_5 l0_5.length c0_5) := (blk_cell BKAe.out 5).trans rfl; have hfz8_0 := blk_frozen BKAe.out 0; have hfz8_1 := blk_frozen BKAe.out 1; have hfz8_2 := blk_frozen BKAe.out 2; have hfz8_3 := blk_frozen BKAe.out 3; have hfz8_4 := blk_frozen BKAe.out 4; have hfz8_5 := blk_frozen BKAe.out 5) | ((with_reducible refine gate_callee (f := 25) rfl ?_); refine gL_ 16 Try.func25 #[.agg #[.int .i64 a0_0, .int .i64 a0_1, .int .i64 a0_2, .int .i64 a0_3, .int .i64 a0_4, .slice A0_5 l0_5.length c0_5]] ?_; (with_reducible refine (plaitingref3_Slots.calls a0_0 a0_1 a0_2 a0_3 a0_4 _ _ l0_5 tAh _ ?side1 ?side2 A6.out).mono ?_); (case side1 => exact cC_ (Kd.C_below HR0_5.out HB.out)); (case side2 => exact HC0_5.out); rintro e w9 ⟨rfl, hb⟩; refine ⟨_, rfl, ?_⟩; have n0_ := Aside0.mk (blk_below (g := gbAe) (o := .cells #[.int .i64 a0_0, .int .i64 a0_1, .int .i64 a0_2, .int .i64 a0_3, .int .i64 a0_4, .slice A0_5 l0_5.length c0_5] 24 (0, 0)) (by (with_reducible repeat (first | refine blk_drewN ?_ _ | refine blk_drew ?_ | refine blk_alloc ?_ _)); exact BKAe.out) hb); have n1_ := Aside0.mk (below_step (by repeat (first | (with_reducible first | exact HB.out | apply below_alloc | apply pw_below_drewN | apply below_drew1 | refine below_set ?_ GEAe.out) | exact HB.out)) hb); clear BKAe; clear HB; have BKAe := n0_; have HB := n1_; clear n0_ n1_; (try clear hb); (try clear hb2); (try clear hk); (try clear hi)))
   go_ret
   exact ⟨by first | rfl | (simp [errW_none, errW_some] <;> rfl) | (simp [*, errW_none, errW_some] <;> rfl), by repeat (first | (with_reducible first | exact HB.out | apply below_alloc | apply pw_below_drewN | apply below_drew1 | refine below_set ?_ GEAe.out) | exact HB.out)⟩
  ·
   rw [if_neg c5] at H
   have c5b0 : decide (a2 < a0_0) = false := decide_eq_false c5
   clear c5
   obtain rfl := Option.some.inj H
   go_enter Try.func54, Try.ntmps54
   go_wp2_with (first | ((with_reducible refine gate_dst (N := 3) rfl ?_); refine box_event ?hg (N := 3) ?hd (cs := #[.int .i64 a0_0, .int .i64 a0_1, .int .i64 a0_2, .int .i64 a0_3, .int .i64 a0_4, .slice A0_5 l0_5.length c0_5]) (t := 24) ?hr ?_; (case hd => rfl); (case hg => rfl); (case hr => first | (go_simp; done) | (go_simp; rfl)); intro gbAe hg w10 hbox hb; have n0_ := Aside0.mk (below_step (by repeat (first | (with_reducible first | exact HB.out | apply below_alloc | apply pw_below_drewN | apply below_drew1) | exact HB.out)) hb); have n1_ := Aside0.mk (hbox); have n2_ := Aside0.mk ((by rw [hg]; exact (below_size (by repeat (first | (with_reducible first | exact HB.out | apply below_alloc | apply pw_below_drewN | apply below_drew1) | exact HB.out))) : w.heap.size ≤ gbAe)); have n3_ := Aside0.mk ((by rw [hg]; exact (below_size (by repeat (first | (with_reducible first | exact HB.out | apply below_alloc | apply pw_below_drewN | apply below_drew1) | exact HB.out))) : w.heap.size ≤ gbAe)); clear HB; have HB := n0_; have BKAe := n1_; have GWAe := n2_; have GEAe := n3_; clear n0_ n1_ n2_ n3_; clear hb hbox hg; have hcz11_0 : w10.cell? ⟨gbAe, 0, none⟩ = some (.int .i64 a0_0) := (blk_cell BKAe.out 0).trans rfl; have hcz11_1 : w10.cell? ⟨gbAe, 1, none⟩ = some (.int .i64 a0_1) := (blk_cell BKAe.out 1).trans rfl; have hcz11_2 : w10.cell? ⟨gbAe, 2, none⟩ = some (.int .i64 a0_2) := (blk_cell BKAe.out 2).trans rfl; have hcz11_3 : w10.cell? ⟨gbAe, 3, none⟩ = some (.int .i64 a0_3) := (blk_cell BKAe.out 3).trans rfl; have hcz11_4 : w10.cell? ⟨gbAe, 4, none⟩ = some (.int .i64 a0_4) := (blk_cell BKAe.out 4).trans rfl; have hcz11_5 : w10.cell? ⟨gbAe, 5, none⟩ = some (.slice A0_5 l0_5.length c0_5) := (blk_cell BKAe.out 5).trans rfl; have hfz11_0 := blk_frozen BKAe.out 0; have hfz11_1 := blk_frozen BKAe.out 1; have hfz11_2 := blk_frozen BKAe.out 2; have hfz11_3 := blk_frozen BKAe.out 3; have hfz11_4 := blk_frozen BKAe.out 4; have hfz11_5 := blk_frozen BKAe.out 5))
   go_ret
   exact ⟨by first | rfl | (simp [errW_none, errW_some] <;> rfl) | (simp [*, errW_none, errW_some] <;> rfl), by repeat (first | (with_reducible first | exact HB.out | apply below_alloc | apply pw_below_drewN | apply below_drew1 | refine below_set ?_ GEAe.out) | exact HB.out)⟩
 ·
  rw [if_neg c4] at H
  have c4b0 : (a1 == 3) = false := beq_eq_false_iff_ne.mpr c4
  have c4b1 : (a1 != 3) = true := bne_iff_ne.mpr c4
  obtain rfl := Option.some.inj H
  go_enter Try.func54, Try.ntmps54
  go_wp2_with (first | ((with_reducible refine gate_dst (N := 3) rfl ?_); refine box_event ?hg (N := 3) ?hd (cs := #[.int .i64 a0_0, .int .i64 a0_1, .int .i64 a0_2, .int .i64 a0_3, .int .i64 a0_4, .slice A0_5 l0_5.length c0_5]) (t := 24) ?hr ?_; (case hd => rfl); (case hg => rfl); (case hr => first | (go_simp; done) | (go_simp; rfl)); intro gbAe hg w12 hbox hb; have n0_ := Aside0.mk (below_step (by repeat (first | (with_reducible first | exact HB.out | apply below_alloc | apply pw_below_drewN | apply below_drew1) | exact HB.out)) hb); have n1_ := Aside0.mk (hbox); have n2_ := Aside0.mk ((by rw [hg]; exact (below_size (by repeat (first | (with_reducible first | exact HB.out | apply below_alloc | apply pw_below_drewN | apply below_drew1) | exact HB.out))) : w.heap.size ≤ gbAe)); have n3_ := Aside0.mk ((by rw [hg]; exact (below_size (by repeat (first | (with_reducible first | exact HB.out | apply below_alloc | apply pw_below_drewN | apply below_drew1) | exact HB.out))) : w.heap.size ≤ gbAe)); clear HB; have HB := n0_; have BKAe := n1_; have GWAe := n2_; have GEAe := n3_; clear n0_ n1_ n2_ n3_; clear hb hbox hg))
  go_ret
  exact ⟨by first | rfl | (simp [errW_none, errW_some] <;> rfl) | (simp [*, errW_none, errW_some] <;> rfl), by repeat (first | (with_reducible first | exact HB.out | apply below_alloc | apply pw_below_drewN | apply below_drew1 | refine below_set ?_ GEAe.out) | exact HB.out)⟩
mutual
def plaitingref5_Check.j0 : Nat → Bool → Int → Int → Int → Int → Int → List Int → Int → Int → Int → Int → Int → List (S26) → Option (Int)
 | 0, _, _, _, _, _, _, _, _, _, _, _, _, _ => none
 | k + 1, x25, xAa000, xAa001, xAa002, xAa003, xAa004, xAa005, xAc000, xAc001, xAc002, xAc003, xAc004, xAc005 => if x25 = true then (some 1) else (if xAc000 < 1 then (plaitingref5_Check.j1 k true xAa000 xAa001 xAa002 xAa003 xAa004 xAa005 xAc000 xAc001 xAc002 xAc003 xAc004 xAc005) else (if xAc000 > 3 then (plaitingref5_Check.j1 k true xAa000 xAa001 xAa002 xAa003 xAa004 xAa005 xAc000 xAc001 xAc002 xAc003 xAc004 xAc005) else (if xAc000 = 3 then (plaitingref5_Check.j1 k false xAa000 xAa001 xAa002 xAa003 xAa004 xAa005 xAc000 xAc001 xAc002 xAc003 xAc004 xAc005) else (plaitingref5_Check.j1 k (decide (xAc002 ≥ xAa000)) xAa000 xAa001 xAa002 xAa003 xAa004 xAa005 xAc000 xAc001 xAc002 xAc003 xAc004 xAc005))))
def plaitingref5_Check.j1 : Nat → Bool → Int → Int → Int → Int → Int → List Int → Int → Int → Int → Int → Int → List (S26) → Option (Int)
 | 0, _, _, _, _, _, _, _, _, _, _, _, _, _ => none
 | k + 1, x45, xAa000, xAa001, xAa002, xAa003, xAa004, xAa005, xAc000, xAc001, xAc002, xAc003, xAc004, xAc005 => if x45 = true then (some 6) else ((plaitingref5_item.f xAc003 xAc004 (xAc000 == 3)).bind fun tAi => (if tAi = true then (if xAc000 = 3 then (plaitingref5_Check.j2 k false xAa000 xAa001 xAa002 xAa003 xAa004 xAa005 xAc000 xAc001 xAc002 xAc003 xAc004 xAc005) else (plaitingref5_Check.j2 k (xAc003 != 0) xAa000 xAa001 xAa002 xAa003 xAa004 xAa005 xAc000 xAc001 xAc002 xAc003 xAc004 xAc005)) else (plaitingref5_Check.j2 k true xAa000 xAa001 xAa002 xAa003 xAa004 xAa005 xAc000 xAc001 xAc002 xAc003 xAc004 xAc005)))
def plaitingref5_Check.j2 : Nat → Bool → Int → Int → Int → Int → Int → List Int → Int → Int → Int → Int → Int → List (S26) → Option (Int)
 | 0, _, _, _, _, _, _, _, _, _, _, _, _, _ => none
 | k + 1, x63, xAa000, xAa001, xAa002, xAa003, xAa004, xAa005, xAc000, xAc001, xAc002, xAc003, xAc004, xAc005 => if x63 = true then (some 1) else ((plaitingref5_echoes.f xAa000 xAa001 xAa002 xAa003 xAa004 xAa005 xAc000 xAc002).bind fun tAg => (if (xAc005.length : Int) = tAg then (plaitingref5_Check.l0 k 0 xAc000 xAc001 xAc002 xAc003 xAc004 xAc005) else (some 2)))
def plaitingref5_Check.l0 : Nat → Int → Int → Int → Int → Int → Int → List (S26) → Option (Int)
 | 0, _, _, _, _, _, _, _ => none
 | k + 1, x5, xAc000, xAc001, xAc002, xAc003, xAc004, xAc005 => if x5 < (xAc005.length : Int) then (if 0 ≤ x5 then ((plaitingref5_item.f ((rd_T26 xAc005 x5).f0) ((rd_T26 xAc005 x5).f1) false).bind fun tAj => (if tAj = true then (plaitingref5_Check.l0 k (wrap64 (x5 + 1)) xAc000 xAc001 xAc002 xAc003 xAc004 xAc005) else (some 1))) else (none)) else (some 0)
end
def plaitingref5_Check.f (k : Nat) (a0_0 : Int) (a0_1 : Int) (a0_2 : Int) (a0_3 : Int) (a0_4 : Int) (l0_5 : List Int) (a1_0 : Int) (a1_1 : Int) (a1_2 : Int) (a1_3 : Int) (a1_4 : Int) (l1_5 : List (S26)) : Option (Int) := if a1_2 < 0 then (plaitingref5_Check.j0 k true a0_0 a0_1 a0_2 a0_3 a0_4 l0_5 a1_0 a1_1 a1_2 a1_3 a1_4 l1_5) else ((plaitingref3_Slots.f a0_0 a0_1 a0_2 a0_3 a0_4 l0_5).bind fun tAc => (if a1_2 ≥ tAc then (plaitingref5_Check.j0 k true a0_0 a0_1 a0_2 a0_3 a0_4 l0_5 a1_0 a1_1 a1_2 a1_3 a1_4 l1_5) else (if a1_1 < 0 then (plaitingref5_Check.j0 k true a0_0 a0_1 a0_2 a0_3 a0_4 l0_5 a1_0 a1_1 a1_2 a1_3 a1_4 l1_5) else (plaitingref5_Check.j0 k (decide (a1_1 ≥ 65536)) a0_0 a0_1 a0_2 a0_3 a0_4 l0_5 a1_0 a1_1 a1_2 a1_3 a1_4 l1_5))))
def plaitingref5_Check.T1 : Bool × List (List Nat × List Nat) := (true, [([], []), ([0], [0]), ([1], [1]), ([2], [2]), ([3], [3]), ([4, 3], [3, 4]), ([3], [3]), ([6, 3, 3], [3, 6]), ([5, 7, 3], [3, 5, 7]), ([3, 8], [3, 8]), ([9, 7], [9]), ([10], [10]), ([11, 10], [10, 11]), ([12, 10], [10, 12]), ([10, 13], [10, 13]), ([14, 10], [14]), ([15], [15]), ([16, 15], [15, 16]), ([17, 15], [15, 17]), ([15, 18], [15, 18])])
def plaitingref5_Check.B1 : List Nat := [0, 1, 3, 7, 15, 31, 15, 79, 255, 511, 1023, 2047, 4095, 8191, 16383, 32767, 65535, 131071, 262143, 524287]
theorem plaitingref5_Check.tab1 : rtab .any (opsOf Try.f23 1) = plaitingref5_Check.T1 := by kernel_rfl
theorem plaitingref5_Check.bits1 : waitsOk plaitingref5_Check.T1.2 plaitingref5_Check.B1 = true := by kernel_rfl
def plaitingref5_Check.T7 : Bool × List (List Nat × List Nat) := (true, [([], []), ([0], [0]), ([1], [1]), ([], []), ([], []), ([4], [4]), ([], []), ([6], [6]), ([3, 5, 7], [3, 5, 7]), ([2, 8], [2, 8])])
def plaitingref5_Check.B7 : List Nat := [0, 1, 3, 0, 0, 16, 0, 64, 248, 511]
theorem plaitingref5_Check.tab7 : rtab .any (opsOf Try.f23 7) = plaitingref5_Check.T7 := by kernel_rfl
theorem plaitingref5_Check.bits7 : waitsOk plaitingref5_Check.T7.2 plaitingref5_Check.B7 = true := by kernel_rfl
set_option maxHeartbeats 8000000 in
set_option maxRecDepth 100000 in
theorem plaitingref5_Check.calls (k : Nat) (a0_0 : Int) (a0_1 : Int) (a0_2 : Int) (a0_3 : Int) (a0_4 : Int) (A0_5 : Option Addr) (c0_5 : Nat) (l0_5 : List Int) (a1_0 : Int) (a1_1 : Int) (a1_2 : Int) (a1_3 : Int) (a1_4 : Int) (A1_5 : Option Addr) (c1_5 : Nat) (l1_5 : List (S26)) (r : Int) (w : World) (hr0_5 : Kd.C (Kd.int .i64) w A0_5 l0_5.length l0_5) (hc0_5 : l0_5.length ≤ c0_5) (hr1_5 : Kd.C k26 w A1_5 l1_5.length l1_5) (hc1_5 : l1_5.length ≤ c1_5) (h : plaitingref5_Check.f k a0_0 a0_1 a0_2 a0_3 a0_4 l0_5 a1_0 a1_1 a1_2 a1_3 a1_4 l1_5 = some r) :
  Calls Try.prog 23 #[.agg #[.int .i64 a0_0, .int .i64 a0_1, .int .i64 a0_2, .int .i64 a0_3, .int .i64 a0_4, .slice A0_5 l0_5.length c0_5], .agg #[.int .i64 a1_0, .int .i64 a1_1, .int .i64 a1_2, .int .i64 a1_3, .int .i64 a1_4, .slice A1_5 l1_5.length c1_5]] w fun e w' => e = .returned (.int .i64 r) ∧ Below w.heap.size w w' := by
 have hu24 := Try.underlying24
 have hu29 := Try.underlying29
 have hu26 := Try.underlying26
 have HR0_5 := Aside0.mk hr0_5
 have HC0_5 := Aside0.mk hc0_5
 clear hr0_5 hc0_5
 have HR1_5 := Aside0.mk hr1_5
 have HC1_5 := Aside0.mk hc1_5
 clear hr1_5 hc1_5
 have HB := Aside0.mk (Below.refl w.heap.size w)
 have H : (if a1_2 < 0 then (plaitingref5_Check.j0 k true a0_0 a0_1 a0_2 a0_3 a0_4 l0_5 a1_0 a1_1 a1_2 a1_3 a1_4 l1_5) else ((plaitingref3_Slots.f a0_0 a0_1 a0_2 a0_3 a0_4 l0_5).bind fun tAc => (if a1_2 ≥ tAc then (plaitingref5_Check.j0 k true a0_0 a0_1 a0_2 a0_3 a0_4 l0_5 a1_0 a1_1 a1_2 a1_3 a1_4 l1_5) else (if a1_1 < 0 then (plaitingref5_Check.j0 k true a0_0 a0_1 a0_2 a0_3 a0_4 l0_5 a1_0 a1_1 a1_2 a1_3 a1_4 l1_5) else (plaitingref5_Check.j0 k (decide (a1_1 ≥ 65536)) a0_0 a0_1 a0_2 a0_3 a0_4 l0_5 a1_0 a1_1 a1_2 a1_3 a1_4 l1_5))))) = some r := h
 clear h
 have HC3 := Aside0.mk H
 clear H
 go_enter Try.func23, Try.ntmps23
 go_upto_region 1 with (first | ((with_reducible refine gate_dst (N := 2) rfl ?_); refine box_event ?hg (N := 2) ?hd (cs := #[.int .i64 a0_0, .int .i64 a0_1, .int .i64 a0_2, .int .i64 a0_3, .int .i64 a0_4, .slice A0_5 l0_5.length c0_5]) (t := 24) ?hr ?_; (case hd => rfl); (case hg => rfl); (case hr => first | (go_simp; done) | (go_simp; rfl)); intro gbAb hg w4 hbox hb; have BKAb := Aside0.mk (hbox); have GWAb := Aside0.mk ((by rw [hg]; exact (below_size (pH_ HB.out)) : w.heap.size ≤ gbAb)); have GEAb := Aside0.mk ((by rw [hg]; exact (below_size (pH_ HB.out)) : w.heap.size ≤ gbAb)); replace HB := Aside0.mk (below_step (pH_ HB.out) hb); clear hb hbox hg) | ((with_reducible refine gate_dst (N := 3) rfl ?_); refine box_event ?hg (N := 3) ?hd (cs := #[.int .i64 a1_0, .int .i64 a1_1, .int .i64 a1_2, .int .i64 a1_3, .int .i64 a1_4, .slice A1_5 l1_5.length c1_5]) (t := 29) ?hr ?_; (case hd => rfl); (case hg => rfl); (case hr => first | (go_simp; done) | (go_simp; rfl)); intro gbAa hg w5 hbox hb; have BKAa := Aside0.mk (hbox); have GWAa := Aside0.mk ((by rw [hg]; exact (below_size (pH_ HB.out)) : w.heap.size ≤ gbAa)); have GEAa := Aside0.mk ((by rw [hg]; exact (below_size (pH_ HB.out)) : w.heap.size ≤ gbAa)); have NBAb_Aa := Aside0.mk (ltB_ hg BKAb.out); have NBAa_Ab := Aside0.mk (ltB_ hg BKAb.out).symm; replace BKAb := Aside0.mk (blk_below (pB_ BKAb.out) hb); replace HB := Aside0.mk (below_step (pH_ HB.out) hb); clear hb hbox hg))
 (try simp only [Act.put, List.setIfInBounds_toArray, List.set_cons_zero, List.set_cons_succ])
 go_cut [25] (fun v25 wc => ∃ (kq : Nat) (x25_2 : Bool), v25 = .bool x25_2 ∧ Aside0 (plaitingref5_Check.j0 kq x25_2 a0_0 a0_1 a0_2 a0_3 a0_4 l0_5 a1_0 a1_1 a1_2 a1_3 a1_4 l1_5 = some r) ∧ Aside0 (kq ≤ k) ∧ Aside0 (wc.heap[gbAb]? = some (.cells #[.int .i64 a0_0, .int .i64 a0_1, .int .i64 a0_2, .int .i64 a0_3, .int .i64 a0_4, (.slice A0_5 l0_5.length c0_5)] 24 (0, 0))) ∧ Aside0 (wc.heap[gbAa]? = some (.cells #[.int .i64 a1_0, .int .i64 a1_1, .int .i64 a1_2, .int .i64 a1_3, .int .i64 a1_4, (.slice A1_5 l1_5.length c1_5)] 29 (0, 0))) ∧ Aside0 (Below w.heap.size w wc))
 case first =>
  have H := HC3.out
  clear HC3
  by_cases c6 : a1_2 < 0
  ·
   rw [if_pos c6] at H
   have c6b0 : decide (a1_2 < 0) = true := decide_eq_true c6
   clear c6
   (first | rw [c6b0] | (simp only [i64_w, i32_w]; rw [c6b0]) | skip)
   have H' := Aside0.mk H
   clear H
   try go_wp2
   replace BKAb := Aside0.mk (blk_drew BKAb.out)
   replace BKAa := Aside0.mk (blk_drew BKAa.out)
   replace HB := Aside0.mk (below_drew1 HB.out)
   refine start_ (n := 20) (S := fun w' => w'.cell? ⟨gbAa, 0, none⟩ = some (.int .i64 a1_0) ∧ w'.cell? ⟨gbAa, 1, none⟩ = some (.int .i64 a1_1) ∧ w'.cell? ⟨gbAa, 2, none⟩ = some (.int .i64 a1_2) ∧ w'.cell? ⟨gbAa, 3, none⟩ = some (.int .i64 a1_3) ∧ w'.cell? ⟨gbAa, 4, none⟩ = some (.int .i64 a1_4) ∧ w'.cell? ⟨gbAa, 5, none⟩ = some (.slice A1_5 l1_5.length c1_5)) (ds := []) #[false, false, false, false, false, false, false, false, false, false, false, false, false, false, false, false, false, false, false, false] (by kernel_rfl) rfl rfl ⟨(blk_cell BKAa.out 0).trans rfl, (blk_cell BKAa.out 1).trans rfl, (blk_cell BKAa.out 2).trans rfl, (blk_cell BKAa.out 3).trans rfl, (blk_cell BKAa.out 4).trans rfl, (blk_cell BKAa.out 5).trans rfl⟩ (fun hHeld => ?_); refine with_tabW plaitingref5_Check.tab1 plaitingref5_Check.bits1 (fun HT_ HW_ => ?_)
   generalize w5.drew = w7 at BKAb BKAa HB hHeld ⊢
   refine pq_ 0 6 HT_ ?_
   refine tq_ 1 7 HT_ HW_ hHeld ?_
   refine pq_ 2 8 HT_ ?_
   refine pq_ 3 9 HT_ ?_
   refine pu_ 4 10 HT_ ?_
   refine pu_ 5 11 HT_ ?_
   refine pu_ 6 12 HT_ ?_
   refine pu_ 7 13 HT_ ?_
   refine pu_ 8 14 HT_ ?_
   refine pq_ 9 15 HT_ ?_
   refine pq_ 10 16 HT_ ?_
   refine pu_ 11 17 HT_ ?_
   refine pu_ 12 18 HT_ ?_
   refine pu_ 13 19 HT_ ?_
   refine pq_ 14 20 HT_ ?_
   refine pq_ 15 21 HT_ ?_
   refine pu_ 16 22 HT_ ?_
   refine pu_ 17 23 HT_ ?_
   refine pu_ 18 24 HT_ ?_
   refine pq_ 19 25 HT_ ?_
   refine done_ (done_of HT_.out (by kernel_rfl)) ?_
   try go_wp2
   go_meet
   case rel => exact ⟨_, (true), (by first | rfl | (simp; done) | (simp [*]; done)), H', ⟨by first | omega | exact Nat.le_refl _⟩, ⟨by (with_reducible repeat (first | refine blk_drewN ?_ _ | refine blk_drew ?_ | refine blk_alloc ?_ _)); exact BKAb.out⟩, ⟨by (with_reducible repeat (first | refine blk_drewN ?_ _ | refine blk_drew ?_ | refine blk_alloc ?_ _)); exact BKAa.out⟩, ⟨by repeat (first | (with_reducible first | exact HB.out | apply below_alloc | apply pw_below_drewN | apply below_drew1 | refine below_set ?_ GEAb.out | refine below_set ?_ GEAa.out) | exact HB.out)⟩⟩
  rw [if_neg c6] at H
  have c6b0 : decide (a1_2 < 0) = false := decide_eq_false c6
  clear c6
  (first | rw [c6b0] | (simp only [i64_w, i32_w]; rw [c6b0]) | skip)
  replace H := Option.bind_eq_some_iff.mp H
  obtain ⟨tAc, A80, H⟩ := H
  replace H : (if a1_2 ≥ tAc then (plaitingref5_Check.j0 k true a0_0 a0_1 a0_2 a0_3 a0_4 l0_5 a1_0 a1_1 a1_2 a1_3 a1_4 l1_5) else (if a1_1 < 0 then (plaitingref5_Check.j0 k true a0_0 a0_1 a0_2 a0_3 a0_4 l0_5 a1_0 a1_1 a1_2 a1_3 a1_4 l1_5) else (plaitingref5_Check.j0 k (decide (a1_1 ≥ 65536)) a0_0 a0_1 a0_2 a0_3 a0_4 l0_5 a1_0 a1_1 a1_2 a1_3 a1_4 l1_5))) = some r := H
  have A8 := Aside0.mk A80
  clear A80
  by_cases c9 : a1_2 ≥ tAc
  ·
   rw [if_pos c9] at H
   have c9b0 : decide (tAc ≤ a1_2) = true := decide_eq_true c9
   clear c9
   have H' := Aside0.mk H
   clear H
   try go_wp2
   replace BKAb := Aside0.mk (blk_drew BKAb.out)
   replace BKAa := Aside0.mk (blk_drew BKAa.out)
   replace HB := Aside0.mk (below_drew1 HB.out)
   refine start_ (n := 20) (S := fun w' => w'.cell? ⟨gbAa, 0, none⟩ = some (.int .i64 a1_0) ∧ w'.cell? ⟨gbAa, 1, none⟩ = some (.int .i64 a1_1) ∧ w'.cell? ⟨gbAa, 2, none⟩ = some (.int .i64 a1_2) ∧ w'.cell? ⟨gbAa, 3, none⟩ = some (.int .i64 a1_3) ∧ w'.cell? ⟨gbAa, 4, none⟩ = some (.int .i64 a1_4) ∧ w'.cell? ⟨gbAa, 5, none⟩ = some (.slice A1_5 l1_5.length c1_5) ∧ w'.cell? ⟨gbAb, 0, none⟩ = some (.int .i64 a0_0) ∧ w'.cell? ⟨gbAb, 1, none⟩ = some (.int .i64 a0_1) ∧ w'.cell? ⟨gbAb, 2, none⟩ = some (.int .i64 a0_2) ∧ w'.cell? ⟨gbAb, 3, none⟩ = some (.int .i64 a0_3) ∧ w'.cell? ⟨gbAb, 4, none⟩ = some (.int .i64 a0_4) ∧ w'.cell? ⟨gbAb, 5, none⟩ = some (.slice A0_5 l0_5.length c0_5)) (ds := []) #[false, false, false, false, false, false, false, false, false, false, false, false, false, false, false, false, false, false, false, false] (by kernel_rfl) rfl rfl ⟨(blk_cell BKAa.out 0).trans rfl, (blk_cell BKAa.out 1).trans rfl, (blk_cell BKAa.out 2).trans rfl, (blk_cell BKAa.out 3).trans rfl, (blk_cell BKAa.out 4).trans rfl, (blk_cell BKAa.out 5).trans rfl, (blk_cell BKAb.out 0).trans rfl, (blk_cell BKAb.out 1).trans rfl, (blk_cell BKAb.out 2).trans rfl, (blk_cell BKAb.out 3).trans rfl, (blk_cell BKAb.out 4).trans rfl, (blk_cell BKAb.out 5).trans rfl⟩ (fun hHeld => ?_); refine with_tabW plaitingref5_Check.tab1 plaitingref5_Check.bits1 (fun HT_ HW_ => ?_)
   generalize w5.drew = w10 at BKAb BKAa HB hHeld ⊢
   refine pq_ 0 6 HT_ ?_
   refine tq_ 1 7 HT_ HW_ hHeld ?_
   refine pq_ 2 8 HT_ ?_
   refine pq_ 3 9 HT_ ?_
   refine pq_ 4 10 HT_ ?_
   refine tq_ 5 11 HT_ HW_ hHeld ?_
   refine tq_ 6 12 HT_ HW_ hHeld ?_
   refine oq_ 7 13 HT_ (fun K hK => ?_)
   refine gs_ Try.func25 #[.agg #[.int .i64 a0_0, .int .i64 a0_1, .int .i64 a0_2, .int .i64 a0_3, .int .i64 a0_4, .slice A0_5 l0_5.length c0_5]] ?_
   with_reducible refine (plaitingref3_Slots.calls a0_0 a0_1 a0_2 a0_3 a0_4 _ _ l0_5 tAc _ ?side1 ?side2 A8.out).mono ?_
   (case side1 => exact cC_ (Kd.C_below HR0_5.out HB.out))
   (case side2 => exact HC0_5.out)
   rintro e w11 ⟨rfl, hb⟩
   refine ⟨_, rfl, ?_⟩
   replace BKAb := Aside0.mk (blk_below (pB_ BKAb.out) hb)
   replace BKAa := Aside0.mk (blk_below (pB_ BKAa.out) hb)
   replace HB := Aside0.mk (below_step (pH_ HB.out) hb)
   (try clear hb)
   (try clear hb2)
   (try clear hk)
   (try clear hi)
   refine hK.out _ _ ⟨(blk_cell BKAa.out 0).trans rfl, (blk_cell BKAa.out 1).trans rfl, (blk_cell BKAa.out 2).trans rfl, (blk_cell BKAa.out 3).trans rfl, (blk_cell BKAa.out 4).trans rfl, (blk_cell BKAa.out 5).trans rfl, (blk_cell BKAb.out 0).trans rfl, (blk_cell BKAb.out 1).trans rfl, (blk_cell BKAb.out 2).trans rfl, (blk_cell BKAb.out 3).trans rfl, (blk_cell BKAb.out 4).trans rfl, (blk_cell BKAb.out 5).trans rfl⟩ (fun hHeld => ?_)
   clear hK K
   refine nq_ 13 ?_
   refine pq_ 8 14 HT_ ?_
   refine pq_ 9 15 HT_ ?_
   refine pq_ 10 16 HT_ ?_
   refine pu_ 11 17 HT_ ?_
   refine pu_ 12 18 HT_ ?_
   refine pu_ 13 19 HT_ ?_
   refine pq_ 14 20 HT_ ?_
   refine pq_ 15 21 HT_ ?_
   refine pu_ 16 22 HT_ ?_
   refine pu_ 17 23 HT_ ?_
   refine pu_ 18 24 HT_ ?_
   refine pq_ 19 25 HT_ ?_
   refine done_ (done_of HT_.out (by kernel_rfl)) ?_
   try go_wp2
   go_meet
   case rel => exact ⟨_, (true), (by first | rfl | (simp; done) | (simp [*]; done)), H', ⟨by first | omega | exact Nat.le_refl _⟩, ⟨by (with_reducible repeat (first | refine blk_drewN ?_ _ | refine blk_drew ?_ | refine blk_alloc ?_ _)); exact BKAb.out⟩, ⟨by (with_reducible repeat (first | refine blk_drewN ?_ _ | refine blk_drew ?_ | refine blk_alloc ?_ _)); exact BKAa.out⟩, ⟨by repeat (first | (with_reducible first | exact HB.out | apply below_alloc | apply pw_below_drewN | apply below_drew1 | refine below_set ?_ GEAb.out | refine below_set ?_ GEAa.out) | exact HB.out)⟩⟩
  rw [if_neg c9] at H
  have c9b0 : decide (tAc ≤ a1_2) = false := decide_eq_false c9
  clear c9
  by_cases c12 : a1_1 < 0
  ·
   rw [if_pos c12] at H
   have c12b0 : decide (a1_1 < 0) = true := decide_eq_true c12
   clear c12
   have H' := Aside0.mk H
   clear H
   try go_wp2
   replace BKAb := Aside0.mk (blk_drew BKAb.out)
   replace BKAa := Aside0.mk (blk_drew BKAa.out)
   replace HB := Aside0.mk (below_drew1 HB.out)
   refine start_ (n := 20) (S := fun w' => w'.cell? ⟨gbAa, 0, none⟩ = some (.int .i64 a1_0) ∧ w'.cell? ⟨gbAa, 1, none⟩ = some (.int .i64 a1_1) ∧ w'.cell? ⟨gbAa, 2, none⟩ = some (.int .i64 a1_2) ∧ w'.cell? ⟨gbAa, 3, none⟩ = some (.int .i64 a1_3) ∧ w'.cell? ⟨gbAa, 4, none⟩ = some (.int .i64 a1_4) ∧ w'.cell? ⟨gbAa, 5, none⟩ = some (.slice A1_5 l1_5.length c1_5) ∧ w'.cell? ⟨gbAb, 0, none⟩ = some (.int .i64 a0_0) ∧ w'.cell? ⟨gbAb, 1, none⟩ = some (.int .i64 a0_1) ∧ w'.cell? ⟨gbAb, 2, none⟩ = some (.int .i64 a0_2) ∧ w'.cell? ⟨gbAb, 3, none⟩ = some (.int .i64 a0_3) ∧ w'.cell? ⟨gbAb, 4, none⟩ = some (.int .i64 a0_4) ∧ w'.cell? ⟨gbAb, 5, none⟩ = some (.slice A0_5 l0_5.length c0_5)) (ds := []) #[false, false, false, false, false, false, false, false, false, false, false, false, false, false, false, false, false, false, false, false] (by kernel_rfl) rfl rfl ⟨(blk_cell BKAa.out 0).trans rfl, (blk_cell BKAa.out 1).trans rfl, (blk_cell BKAa.out 2).trans rfl, (blk_cell BKAa.out 3).trans rfl, (blk_cell BKAa.out 4).trans rfl, (blk_cell BKAa.out 5).trans rfl, (blk_cell BKAb.out 0).trans rfl, (blk_cell BKAb.out 1).trans rfl, (blk_cell BKAb.out 2).trans rfl, (blk_cell BKAb.out 3).trans rfl, (blk_cell BKAb.out 4).trans rfl, (blk_cell BKAb.out 5).trans rfl⟩ (fun hHeld => ?_); refine with_tabW plaitingref5_Check.tab1 plaitingref5_Check.bits1 (fun HT_ HW_ => ?_)
   generalize w5.drew = w13 at BKAb BKAa HB hHeld ⊢
   refine pq_ 0 6 HT_ ?_
   refine tq_ 1 7 HT_ HW_ hHeld ?_
   refine pq_ 2 8 HT_ ?_
   refine pq_ 3 9 HT_ ?_
   refine pq_ 4 10 HT_ ?_
   refine tq_ 5 11 HT_ HW_ hHeld ?_
   refine tq_ 6 12 HT_ HW_ hHeld ?_
   refine oq_ 7 13 HT_ (fun K hK => ?_)
   refine gs_ Try.func25 #[.agg #[.int .i64 a0_0, .int .i64 a0_1, .int .i64 a0_2, .int .i64 a0_3, .int .i64 a0_4, .slice A0_5 l0_5.length c0_5]] ?_
   with_reducible refine (plaitingref3_Slots.calls a0_0 a0_1 a0_2 a0_3 a0_4 _ _ l0_5 tAc _ ?side1 ?side2 A8.out).mono ?_
   (case side1 => exact cC_ (Kd.C_below HR0_5.out HB.out))
   (case side2 => exact HC0_5.out)
   rintro e w14 ⟨rfl, hb⟩
   refine ⟨_, rfl, ?_⟩
   replace BKAb := Aside0.mk (blk_below (pB_ BKAb.out) hb)
   replace BKAa := Aside0.mk (blk_below (pB_ BKAa.out) hb)
   replace HB := Aside0.mk (below_step (pH_ HB.out) hb)
   (try clear hb)
   (try clear hb2)
   (try clear hk)
   (try clear hi)
   refine hK.out _ _ ⟨(blk_cell BKAa.out 0).trans rfl, (blk_cell BKAa.out 1).trans rfl, (blk_cell BKAa.out 2).trans rfl, (blk_cell BKAa.out 3).trans rfl, (blk_cell BKAa.out 4).trans rfl, (blk_cell BKAa.out 5).trans rfl, (blk_cell BKAb.out 0).trans rfl, (blk_cell BKAb.out 1).trans rfl, (blk_cell BKAb.out 2).trans rfl, (blk_cell BKAb.out 3).trans rfl, (blk_cell BKAb.out 4).trans rfl, (blk_cell BKAb.out 5).trans rfl⟩ (fun hHeld => ?_)
   clear hK K
   refine nq_ 13 ?_
   refine pq_ 8 14 HT_ ?_
   refine pq_ 9 15 HT_ ?_
   refine pq_ 10 16 HT_ ?_
   refine pq_ 11 17 HT_ ?_
   refine tq_ 12 18 HT_ HW_ hHeld ?_
   refine pq_ 13 19 HT_ ?_
   refine pq_ 14 20 HT_ ?_
   refine pq_ 15 21 HT_ ?_
   refine pu_ 16 22 HT_ ?_
   refine pu_ 17 23 HT_ ?_
   refine pu_ 18 24 HT_ ?_
   refine pq_ 19 25 HT_ ?_
   refine done_ (done_of HT_.out (by kernel_rfl)) ?_
   try go_wp2
   go_meet
   case rel => exact ⟨_, (true), (by first | rfl | (simp; done) | (simp [*]; done)), H', ⟨by first | omega | exact Nat.le_refl _⟩, ⟨by (with_reducible repeat (first | refine blk_drewN ?_ _ | refine blk_drew ?_ | refine blk_alloc ?_ _)); exact BKAb.out⟩, ⟨by (with_reducible repeat (first | refine blk_drewN ?_ _ | refine blk_drew ?_ | refine blk_alloc ?_ _)); exact BKAa.out⟩, ⟨by repeat (first | (with_reducible first | exact HB.out | apply below_alloc | apply pw_below_drewN | apply below_drew1 | refine below_set ?_ GEAb.out | refine below_set ?_ GEAa.out) | exact HB.out)⟩⟩
  rw [if_neg c12] at H
  have c12b0 : decide (a1_1 < 0) = false := decide_eq_false c12
  clear c12
  have H' := Aside0.mk H
  clear H
  try go_wp2
  replace BKAb := Aside0.mk (blk_drew BKAb.out)
  replace BKAa := Aside0.mk (blk_drew BKAa.out)
  replace HB := Aside0.mk (below_drew1 HB.out)
  refine start_ (n := 20) (S := fun w' => w'.cell? ⟨gbAa, 0, none⟩ = some (.int .i64 a1_0) ∧ w'.cell? ⟨gbAa, 1, none⟩ = some (.int .i64 a1_1) ∧ w'.cell? ⟨gbAa, 2, none⟩ = some (.int .i64 a1_2) ∧ w'.cell? ⟨gbAa, 3, none⟩ = some (.int .i64 a1_3) ∧ w'.cell? ⟨gbAa, 4, none⟩ = some (.int .i64 a1_4) ∧ w'.cell? ⟨gbAa, 5, none⟩ = some (.slice A1_5 l1_5.length c1_5) ∧ w'.cell? ⟨gbAb, 0, none⟩ = some (.int .i64 a0_0) ∧ w'.cell? ⟨gbAb, 1, none⟩ = some (.int .i64 a0_1) ∧ w'.cell? ⟨gbAb, 2, none⟩ = some (.int .i64 a0_2) ∧ w'.cell? ⟨gbAb, 3, none⟩ = some (.int .i64 a0_3) ∧ w'.cell? ⟨gbAb, 4, none⟩ = some (.int .i64 a0_4) ∧ w'.cell? ⟨gbAb, 5, none⟩ = some (.slice A0_5 l0_5.length c0_5)) (ds := []) #[false, false, false, false, false, false, false, false, false, false, false, false, false, false, false, false, false, false, false, false] (by kernel_rfl) rfl rfl ⟨(blk_cell BKAa.out 0).trans rfl, (blk_cell BKAa.out 1).trans rfl, (blk_cell BKAa.out 2).trans rfl, (blk_cell BKAa.out 3).trans rfl, (blk_cell BKAa.out 4).trans rfl, (blk_cell BKAa.out 5).trans rfl, (blk_cell BKAb.out 0).trans rfl, (blk_cell BKAb.out 1).trans rfl, (blk_cell BKAb.out 2).trans rfl, (blk_cell BKAb.out 3).trans rfl, (blk_cell BKAb.out 4).trans rfl, (blk_cell BKAb.out 5).trans rfl⟩ (fun hHeld => ?_); refine with_tabW plaitingref5_Check.tab1 plaitingref5_Check.bits1 (fun HT_ HW_ => ?_)
  generalize w5.drew = w15 at BKAb BKAa HB hHeld ⊢
  refine pq_ 0 6 HT_ ?_
  refine tq_ 1 7 HT_ HW_ hHeld ?_
  refine pq_ 2 8 HT_ ?_
  refine pq_ 3 9 HT_ ?_
  refine pq_ 4 10 HT_ ?_
  refine tq_ 5 11 HT_ HW_ hHeld ?_
  refine tq_ 6 12 HT_ HW_ hHeld ?_
  refine oq_ 7 13 HT_ (fun K hK => ?_)
  refine gs_ Try.func25 #[.agg #[.int .i64 a0_0, .int .i64 a0_1, .int .i64 a0_2, .int .i64 a0_3, .int .i64 a0_4, .slice A0_5 l0_5.length c0_5]] ?_
  with_reducible refine (plaitingref3_Slots.calls a0_0 a0_1 a0_2 a0_3 a0_4 _ _ l0_5 tAc _ ?side1 ?side2 A8.out).mono ?_
  (case side1 => exact cC_ (Kd.C_below HR0_5.out HB.out))
  (case side2 => exact HC0_5.out)
  rintro e w16 ⟨rfl, hb⟩
  refine ⟨_, rfl, ?_⟩
  replace BKAb := Aside0.mk (blk_below (pB_ BKAb.out) hb)
  replace BKAa := Aside0.mk (blk_below (pB_ BKAa.out) hb)
  replace HB := Aside0.mk (below_step (pH_ HB.out) hb)
  (try clear hb)
  (try clear hb2)
  (try clear hk)
  (try clear hi)
  refine hK.out _ _ ⟨(blk_cell BKAa.out 0).trans rfl, (blk_cell BKAa.out 1).trans rfl, (blk_cell BKAa.out 2).trans rfl, (blk_cell BKAa.out 3).trans rfl, (blk_cell BKAa.out 4).trans rfl, (blk_cell BKAa.out 5).trans rfl, (blk_cell BKAb.out 0).trans rfl, (blk_cell BKAb.out 1).trans rfl, (blk_cell BKAb.out 2).trans rfl, (blk_cell BKAb.out 3).trans rfl, (blk_cell BKAb.out 4).trans rfl, (blk_cell BKAb.out 5).trans rfl⟩ (fun hHeld => ?_)
  clear hK K
  refine nq_ 13 ?_
  refine pq_ 8 14 HT_ ?_
  refine pq_ 9 15 HT_ ?_
  refine pq_ 10 16 HT_ ?_
  refine pq_ 11 17 HT_ ?_
  refine tq_ 12 18 HT_ HW_ hHeld ?_
  refine pq_ 13 19 HT_ ?_
  refine pq_ 14 20 HT_ ?_
  refine pq_ 15 21 HT_ ?_
  refine pq_ 16 22 HT_ ?_
  refine tq_ 17 23 HT_ HW_ hHeld ?_
  refine pq_ 18 24 HT_ ?_
  refine pq_ 19 25 HT_ ?_
  refine done_ (done_of HT_.out (by kernel_rfl)) ?_
  try go_wp2
  go_meet
  case rel => exact ⟨_, (decide (a1_1 ≥ 65536)), (by first | rfl | (simp; done) | (simp [*]; done)), H', ⟨by first | omega | exact Nat.le_refl _⟩, ⟨by (with_reducible repeat (first | refine blk_drewN ?_ _ | refine blk_drew ?_ | refine blk_alloc ?_ _)); exact BKAb.out⟩, ⟨by (with_reducible repeat (first | refine blk_drewN ?_ _ | refine blk_drew ?_ | refine blk_alloc ?_ _)); exact BKAa.out⟩, ⟨by repeat (first | (with_reducible first | exact HB.out | apply below_alloc | apply pw_below_drewN | apply below_drew1 | refine below_set ?_ GEAb.out | refine below_set ?_ GEAa.out) | exact HB.out)⟩⟩
 case rest =>
  clear HC3
  try clear c1
  try clear c2
  try clear p2
  try clear c6
  try clear c6b0
  try clear c9
  try clear c9b0
  try clear c12
  try clear c12b0
  obtain ⟨kq, x25_2, rfl, HA, HJ2, BKAb, BKAa, HB⟩ := hcut
  cases kq with
  | zero => exact absurd HA.out (by simp [plaitingref5_Check.j0])
  | succ kj2 =>
   have H := HA.out
   clear HA
   simp only [plaitingref5_Check.j0] at H
   by_cases c17 : x25_2 = true
   ·
    subst c17
    have H1 : (some 1) = some r := by rw [if_pos rfl] at H; exact H
    clear H
    have H := H1
    clear H1
    obtain rfl := Option.some.inj H
    go_wp2
    go_ret
    exact ⟨by first | rfl | (simp [errW_none, errW_some] <;> rfl) | (simp [*, errW_none, errW_some] <;> rfl), by repeat (first | (with_reducible first | exact HB.out | apply below_alloc | apply pw_below_drewN | apply below_drew1 | refine below_set ?_ GEAb.out | refine below_set ?_ GEAa.out) | exact HB.out)⟩
   replace c17 := Bool.eq_false_iff.mpr c17
   subst c17
   have H1 : (if a1_0 < 1 then (plaitingref5_Check.j1 kj2 true a0_0 a0_1 a0_2 a0_3 a0_4 l0_5 a1_0 a1_1 a1_2 a1_3 a1_4 l1_5) else (if a1_0 > 3 then (plaitingref5_Check.j1 kj2 true a0_0 a0_1 a0_2 a0_3 a0_4 l0_5 a1_0 a1_1 a1_2 a1_3 a1_4 l1_5) else (if a1_0 = 3 then (plaitingref5_Check.j1 kj2 false a0_0 a0_1 a0_2 a0_3 a0_4 l0_5 a1_0 a1_1 a1_2 a1_3 a1_4 l1_5) else (plaitingref5_Check.j1 kj2 (decide (a1_2 ≥ a0_0)) a0_0 a0_1 a0_2 a0_3 a0_4 l0_5 a1_0 a1_1 a1_2 a1_3 a1_4 l1_5)))) = some r := by rw [if_neg (show ¬ (false = true) by decide)] at H; exact H
   clear H
   have H := H1
   clear H1
   have HC18 := Aside0.mk H
   clear H
   go_upto_region 3 with (fail)
   go_cut [45] (fun v45 wc => ∃ (kq : Nat) (x45_17 : Bool), v45 = .bool x45_17 ∧ Aside0 (plaitingref5_Check.j1 kq x45_17 a0_0 a0_1 a0_2 a0_3 a0_4 l0_5 a1_0 a1_1 a1_2 a1_3 a1_4 l1_5 = some r) ∧ Aside0 (kq ≤ kj2) ∧ Aside0 (wc.heap[gbAb]? = some (.cells #[.int .i64 a0_0, .int .i64 a0_1, .int .i64 a0_2, .int .i64 a0_3, .int .i64 a0_4, (.slice A0_5 l0_5.length c0_5)] 24 (0, 0))) ∧ Aside0 (wc.heap[gbAa]? = some (.cells #[.int .i64 a1_0, .int .i64 a1_1, .int .i64 a1_2, .int .i64 a1_3, .int .i64 a1_4, (.slice A1_5 l1_5.length c1_5)] 29 (0, 0))) ∧ Aside0 (Below w.heap.size w wc))
   case first =>
    have H := HC18.out
    clear HC18
    by_cases c19 : a1_0 < 1
    ·
     rw [if_pos c19] at H
     have c19b0 : decide (a1_0 < 1) = true := decide_eq_true c19
     clear c19
     (first | rw [c19b0] | (simp only [i64_w, i32_w]; rw [c19b0]) | skip)
     have H' := Aside0.mk H
     clear H
     have hnb20 := NBAa_Ab.out
     have hnc20 := NBAb_Aa.out
     have hcz21_0 : wc.cell? ⟨gbAa, 0, none⟩ = some (.int .i64 a1_0) := (blk_cell BKAa.out 0).trans rfl
     have hcz21_1 : wc.cell? ⟨gbAa, 1, none⟩ = some (.int .i64 a1_1) := (blk_cell BKAa.out 1).trans rfl
     have hcz21_2 : wc.cell? ⟨gbAa, 2, none⟩ = some (.int .i64 a1_2) := (blk_cell BKAa.out 2).trans rfl
     have hcz21_3 : wc.cell? ⟨gbAa, 3, none⟩ = some (.int .i64 a1_3) := (blk_cell BKAa.out 3).trans rfl
     have hcz21_4 : wc.cell? ⟨gbAa, 4, none⟩ = some (.int .i64 a1_4) := (blk_cell BKAa.out 4).trans rfl
     have hcz21_5 : wc.cell? ⟨gbAa, 5, none⟩ = some (.slice A1_5 l1_5.length c1_5) := (blk_cell BKAa.out 5).trans rfl
     have hfz21_0 := blk_frozen BKAa.out 0
     have hfz21_1 := blk_frozen BKAa.out 1
     have hfz21_2 := blk_frozen BKAa.out 2
     have hfz21_3 := blk_frozen BKAa.out 3
     have hfz21_4 := blk_frozen BKAa.out 4
     have hfz21_5 := blk_frozen BKAa.out 5
     go_wp2
     go_meet
     case rel => exact ⟨_, (true), (by first | rfl | (simp; done) | (simp [*]; done)), H', ⟨by have := HJ2.out; first | omega | exact Nat.le_refl _⟩, ⟨by (with_reducible repeat (first | refine blk_drewN ?_ _ | refine blk_drew ?_ | refine blk_alloc ?_ _)); exact BKAb.out⟩, ⟨by (with_reducible repeat (first | refine blk_drewN ?_ _ | refine blk_drew ?_ | refine blk_alloc ?_ _)); exact BKAa.out⟩, ⟨by repeat (first | (with_reducible first | exact HB.out | apply below_alloc | apply pw_below_drewN | apply below_drew1 | refine below_set ?_ GEAb.out | refine below_set ?_ GEAa.out) | exact HB.out)⟩⟩
    rw [if_neg c19] at H
    have c19b0 : decide (a1_0 < 1) = false := decide_eq_false c19
    clear c19
    (first | rw [c19b0] | (simp only [i64_w, i32_w]; rw [c19b0]) | skip)
    by_cases c22 : a1_0 > 3
    ·
     rw [if_pos c22] at H
     have c22b0 : decide (3 < a1_0) = true := decide_eq_true c22
     clear c22
     have H' := Aside0.mk H
     clear H
     have hnb23 := NBAa_Ab.out
     have hnc23 := NBAb_Aa.out
     have hcz24_0 : wc.cell? ⟨gbAa, 0, none⟩ = some (.int .i64 a1_0) := (blk_cell BKAa.out 0).trans rfl
     have hcz24_1 : wc.cell? ⟨gbAa, 1, none⟩ = some (.int .i64 a1_1) := (blk_cell BKAa.out 1).trans rfl
     have hcz24_2 : wc.cell? ⟨gbAa, 2, none⟩ = some (.int .i64 a1_2) := (blk_cell BKAa.out 2).trans rfl
     have hcz24_3 : wc.cell? ⟨gbAa, 3, none⟩ = some (.int .i64 a1_3) := (blk_cell BKAa.out 3).trans rfl
     have hcz24_4 : wc.cell? ⟨gbAa, 4, none⟩ = some (.int .i64 a1_4) := (blk_cell BKAa.out 4).trans rfl
     have hcz24_5 : wc.cell? ⟨gbAa, 5, none⟩ = some (.slice A1_5 l1_5.length c1_5) := (blk_cell BKAa.out 5).trans rfl
     have hfz24_0 := blk_frozen BKAa.out 0
     have hfz24_1 := blk_frozen BKAa.out 1
     have hfz24_2 := blk_frozen BKAa.out 2
     have hfz24_3 := blk_frozen BKAa.out 3
     have hfz24_4 := blk_frozen BKAa.out 4
     have hfz24_5 := blk_frozen BKAa.out 5
     go_wp2
     go_meet
     case rel => exact ⟨_, (true), (by first | rfl | (simp; done) | (simp [*]; done)), H', ⟨by have := HJ2.out; first | omega | exact Nat.le_refl _⟩, ⟨by (with_reducible repeat (first | refine blk_drewN ?_ _ | refine blk_drew ?_ | refine blk_alloc ?_ _)); exact BKAb.out⟩, ⟨by (with_reducible repeat (first | refine blk_drewN ?_ _ | refine blk_drew ?_ | refine blk_alloc ?_ _)); exact BKAa.out⟩, ⟨by repeat (first | (with_reducible first | exact HB.out | apply below_alloc | apply pw_below_drewN | apply below_drew1 | refine below_set ?_ GEAb.out | refine below_set ?_ GEAa.out) | exact HB.out)⟩⟩
    rw [if_neg c22] at H
    have c22b0 : decide (3 < a1_0) = false := decide_eq_false c22
    clear c22
    by_cases c25 : a1_0 = 3
    ·
     rw [if_pos c25] at H
     have c25b0 : (a1_0 == 3) = true := beq_iff_eq.mpr c25
     have c25b1 : (a1_0 != 3) = false := bne_eq_false_iff_eq.mpr c25
     clear c25
     have H' := Aside0.mk H
     clear H
     have hnb26 := NBAa_Ab.out
     have hnc26 := NBAb_Aa.out
     have hcz27_0 : wc.cell? ⟨gbAa, 0, none⟩ = some (.int .i64 a1_0) := (blk_cell BKAa.out 0).trans rfl
     have hcz27_1 : wc.cell? ⟨gbAa, 1, none⟩ = some (.int .i64 a1_1) := (blk_cell BKAa.out 1).trans rfl
     have hcz27_2 : wc.cell? ⟨gbAa, 2, none⟩ = some (.int .i64 a1_2) := (blk_cell BKAa.out 2).trans rfl
     have hcz27_3 : wc.cell? ⟨gbAa, 3, none⟩ = some (.int .i64 a1_3) := (blk_cell BKAa.out 3).trans rfl
     have hcz27_4 : wc.cell? ⟨gbAa, 4, none⟩ = some (.int .i64 a1_4) := (blk_cell BKAa.out 4).trans rfl
     have hcz27_5 : wc.cell? ⟨gbAa, 5, none⟩ = some (.slice A1_5 l1_5.length c1_5) := (blk_cell BKAa.out 5).trans rfl
     have hfz27_0 := blk_frozen BKAa.out 0
     have hfz27_1 := blk_frozen BKAa.out 1
     have hfz27_2 := blk_frozen BKAa.out 2
     have hfz27_3 := blk_frozen BKAa.out 3
     have hfz27_4 := blk_frozen BKAa.out 4
     have hfz27_5 := blk_frozen BKAa.out 5
     go_wp2
     go_meet
     case rel => exact ⟨_, (false), (by first | rfl | (simp; done) | (simp [*]; done)), H', ⟨by have := HJ2.out; first | omega | exact Nat.le_refl _⟩, ⟨by (with_reducible repeat (first | refine blk_drewN ?_ _ | refine blk_drew ?_ | refine blk_alloc ?_ _)); exact BKAb.out⟩, ⟨by (with_reducible repeat (first | refine blk_drewN ?_ _ | refine blk_drew ?_ | refine blk_alloc ?_ _)); exact BKAa.out⟩, ⟨by repeat (first | (with_reducible first | exact HB.out | apply below_alloc | apply pw_below_drewN | apply below_drew1 | refine below_set ?_ GEAb.out | refine below_set ?_ GEAa.out) | exact HB.out)⟩⟩
    rw [if_neg c25] at H
    have c25b0 : (a1_0 == 3) = false := beq_eq_false_iff_ne.mpr c25
    have c25b1 : (a1_0 != 3) = true := bne_iff_ne.mpr c25
    have H' := Aside0.mk H
    clear H
    have hnb28 := NBAa_Ab.out
    have hnc28 := NBAb_Aa.out
    have hcz29_0 : wc.cell? ⟨gbAa, 0, none⟩ = some (.int .i64 a1_0) := (blk_cell BKAa.out 0).trans rfl
    have hcz29_1 : wc.cell? ⟨gbAa, 1, none⟩ = some (.int .i64 a1_1) := (blk_cell BKAa.out 1).trans rfl
    have hcz29_2 : wc.cell? ⟨gbAa, 2, none⟩ = some (.int .i64 a1_2) := (blk_cell BKAa.out 2).trans rfl
    have hcz29_3 : wc.cell? ⟨gbAa, 3, none⟩ = some (.int .i64 a1_3) := (blk_cell BKAa.out 3).trans rfl
    have hcz29_4 : wc.cell? ⟨gbAa, 4, none⟩ = some (.int .i64 a1_4) := (blk_cell BKAa.out 4).trans rfl
    have hcz29_5 : wc.cell? ⟨gbAa, 5, none⟩ = some (.slice A1_5 l1_5.length c1_5) := (blk_cell BKAa.out 5).trans rfl
    have hfz29_0 := blk_frozen BKAa.out 0
    have hfz29_1 := blk_frozen BKAa.out 1
    have hfz29_2 := blk_frozen BKAa.out 2
    have hfz29_3 := blk_frozen BKAa.out 3
    have hfz29_4 := blk_frozen BKAa.out 4
    have hfz29_5 := blk_frozen BKAa.out 5
    have hcz30_0 : wc.cell? ⟨gbAb, 0, none⟩ = some (.int .i64 a0_0) := (blk_cell BKAb.out 0).trans rfl
    have hcz30_1 : wc.cell? ⟨gbAb, 1, none⟩ = some (.int .i64 a0_1) := (blk_cell BKAb.out 1).trans rfl
    have hcz30_2 : wc.cell? ⟨gbAb, 2, none⟩ = some (.int .i64 a0_2) := (blk_cell BKAb.out 2).trans rfl
    have hcz30_3 : wc.cell? ⟨gbAb, 3, none⟩ = some (.int .i64 a0_3) := (blk_cell BKAb.out 3).trans rfl
    have hcz30_4 : wc.cell? ⟨gbAb, 4, none⟩ = some (.int .i64 a0_4) := (blk_cell BKAb.out 4).trans rfl
    have hcz30_5 : wc.cell? ⟨gbAb, 5, none⟩ = some (.slice A0_5 l0_5.length c0_5) := (blk_cell BKAb.out 5).trans rfl
    have hfz30_0 := blk_frozen BKAb.out 0
    have hfz30_1 := blk_frozen BKAb.out 1
    have hfz30_2 := blk_frozen BKAb.out 2
    have hfz30_3 := blk_frozen BKAb.out 3
    have hfz30_4 := blk_frozen BKAb.out 4
    have hfz30_5 := blk_frozen BKAb.out 5
    go_wp2
    go_meet
    case rel => exact ⟨_, (decide (a1_2 ≥ a0_0)), (by first | rfl | (simp; done) | (simp [*]; done)), H', ⟨by have := HJ2.out; first | omega | exact Nat.le_refl _⟩, ⟨by (with_reducible repeat (first | refine blk_drewN ?_ _ | refine blk_drew ?_ | refine blk_alloc ?_ _)); exact BKAb.out⟩, ⟨by (with_reducible repeat (first | refine blk_drewN ?_ _ | refine blk_drew ?_ | refine blk_alloc ?_ _)); exact BKAa.out⟩, ⟨by repeat (first | (with_reducible first | exact HB.out | apply below_alloc | apply pw_below_drewN | apply below_drew1 | refine below_set ?_ GEAb.out | refine below_set ?_ GEAa.out) | exact HB.out)⟩⟩
   case rest =>
    clear HC18
    try clear c1
    try clear c2
    try clear p2
    try clear c6
    try clear c6b0
    try clear c9
    try clear c9b0
    try clear c12
    try clear c12b0
    try clear c17
    try clear c19
    try clear c19b0
    try clear c20
    try clear c22
    try clear c22b0
    try clear c23
    try clear c25
    try clear c25b0
    try clear c25b1
    try clear c26
    try clear c28
    try clear hcz21_0
    try clear hcz21_1
    try clear hcz21_2
    try clear hcz21_3
    try clear hcz21_4
    try clear hcz21_5
    try clear hcz24_0
    try clear hcz24_1
    try clear hcz24_2
    try clear hcz24_3
    try clear hcz24_4
    try clear hcz24_5
    try clear hcz27_0
    try clear hcz27_1
    try clear hcz27_2
    try clear hcz27_3
    try clear hcz27_4
    try clear hcz27_5
    try clear hcz29_0
    try clear hcz29_1
    try clear hcz29_2
    try clear hcz29_3
    try clear hcz29_4
    try clear hcz29_5
    try clear hcz30_0
    try clear hcz30_1
    try clear hcz30_2
    try clear hcz30_3
    try clear hcz30_4
    try clear hcz30_5
    try clear hfz21_0
    try clear hfz21_1
    try clear hfz21_2
    try clear hfz21_3
    try clear hfz21_4
    try clear hfz21_5
    try clear hfz24_0
    try clear hfz24_1
    try clear hfz24_2
    try clear hfz24_3
    try clear hfz24_4
    try clear hfz24_5
    try clear hfz27_0
    try clear hfz27_1
    try clear hfz27_2
    try clear hfz27_3
    try clear hfz27_4
    try clear hfz27_5
    try clear hfz29_0
    try clear hfz29_1
    try clear hfz29_2
    try clear hfz29_3
    try clear hfz29_4
    try clear hfz29_5
    try clear hfz30_0
    try clear hfz30_1
    try clear hfz30_2
    try clear hfz30_3
    try clear hfz30_4
    try clear hfz30_5
    try clear p2
    obtain ⟨kq, x45_17, rfl, HA, HJ17, BKAb, BKAa, HB⟩ := hcut
    cases kq with
    | zero => exact absurd HA.out (by simp [plaitingref5_Check.j1])
    | succ kj17 =>
     have H := HA.out
     clear HA
     simp only [plaitingref5_Check.j1] at H
     by_cases c31 : x45_17 = true
     ·
      subst c31
      have H1 : (some 6) = some r := by rw [if_pos rfl] at H; exact H
      clear H
      have H := H1
      clear H1
      obtain rfl := Option.some.inj H
      go_wp2
      go_ret
      exact ⟨by first | rfl | (simp [errW_none, errW_some] <;> rfl) | (simp [*, errW_none, errW_some] <;> rfl), by repeat (first | (with_reducible first | exact HB.out | apply below_alloc | apply pw_below_drewN | apply below_drew1 | refine below_set ?_ GEAb.out | refine below_set ?_ GEAa.out) | exact HB.out)⟩
     replace c31 := Bool.eq_false_iff.mpr c31
     subst c31
     have H1 : ((plaitingref5_item.f a1_3 a1_4 (a1_0 == 3)).bind fun tAi => (if tAi = true then (if a1_0 = 3 then (plaitingref5_Check.j2 kj17 false a0_0 a0_1 a0_2 a0_3 a0_4 l0_5 a1_0 a1_1 a1_2 a1_3 a1_4 l1_5) else (plaitingref5_Check.j2 kj17 (a1_3 != 0) a0_0 a0_1 a0_2 a0_3 a0_4 l0_5 a1_0 a1_1 a1_2 a1_3 a1_4 l1_5)) else (plaitingref5_Check.j2 kj17 true a0_0 a0_1 a0_2 a0_3 a0_4 l0_5 a1_0 a1_1 a1_2 a1_3 a1_4 l1_5))) = some r := by rw [if_neg (show ¬ (false = true) by decide)] at H; exact H
     clear H
     have H := H1
     clear H1
     have HC32 := Aside0.mk H
     clear H
     go_upto_region 5 with (fail)
     go_cut [63] (fun v63 wc => ∃ (kq : Nat) (x63_31 : Bool), v63 = .bool x63_31 ∧ Aside0 (plaitingref5_Check.j2 kq x63_31 a0_0 a0_1 a0_2 a0_3 a0_4 l0_5 a1_0 a1_1 a1_2 a1_3 a1_4 l1_5 = some r) ∧ Aside0 (kq ≤ kj17) ∧ Aside0 (wc.heap[gbAb]? = some (.cells #[.int .i64 a0_0, .int .i64 a0_1, .int .i64 a0_2, .int .i64 a0_3, .int .i64 a0_4, (.slice A0_5 l0_5.length c0_5)] 24 (0, 0))) ∧ Aside0 (wc.heap[gbAa]? = some (.cells #[.int .i64 a1_0, .int .i64 a1_1, .int .i64 a1_2, .int .i64 a1_3, .int .i64 a1_4, (.slice A1_5 l1_5.length c1_5)] 29 (0, 0))) ∧ Aside0 (Below w.heap.size w wc))
     case first =>
      have H := HC32.out
      clear HC32
      replace H := Option.bind_eq_some_iff.mp H
      obtain ⟨tAi, A330, H⟩ := H
      replace H : (if tAi = true then (if a1_0 = 3 then (plaitingref5_Check.j2 kj17 false a0_0 a0_1 a0_2 a0_3 a0_4 l0_5 a1_0 a1_1 a1_2 a1_3 a1_4 l1_5) else (plaitingref5_Check.j2 kj17 (a1_3 != 0) a0_0 a0_1 a0_2 a0_3 a0_4 l0_5 a1_0 a1_1 a1_2 a1_3 a1_4 l1_5)) else (plaitingref5_Check.j2 kj17 true a0_0 a0_1 a0_2 a0_3 a0_4 l0_5 a1_0 a1_1 a1_2 a1_3 a1_4 l1_5)) = some r := H
      have A33 := Aside0.mk A330
      clear A330
      by_cases c34 : tAi = true
      ·
       subst c34
       have H1 : (if a1_0 = 3 then (plaitingref5_Check.j2 kj17 false a0_0 a0_1 a0_2 a0_3 a0_4 l0_5 a1_0 a1_1 a1_2 a1_3 a1_4 l1_5) else (plaitingref5_Check.j2 kj17 (a1_3 != 0) a0_0 a0_1 a0_2 a0_3 a0_4 l0_5 a1_0 a1_1 a1_2 a1_3 a1_4 l1_5)) = some r := by rw [if_pos rfl] at H; exact H
       clear H
       have H := H1
       clear H1
       by_cases c35 : a1_0 = 3
       ·
        rw [if_pos c35] at H
        have c35b0 : (a1_0 == 3) = true := beq_iff_eq.mpr c35
        have c35b1 : (a1_0 != 3) = false := bne_eq_false_iff_eq.mpr c35
        clear c35
        (first | rw [c35b0] | (simp only [i64_w, i32_w]; rw [c35b0]) | skip)
        have H' := Aside0.mk H
        clear H
        have hnb36 := NBAa_Ab.out
        have hnc36 := NBAb_Aa.out
        have hcz37_0 : wc.cell? ⟨gbAa, 0, none⟩ = some (.int .i64 a1_0) := (blk_cell BKAa.out 0).trans rfl
        have hcz37_1 : wc.cell? ⟨gbAa, 1, none⟩ = some (.int .i64 a1_1) := (blk_cell BKAa.out 1).trans rfl
        have hcz37_2 : wc.cell? ⟨gbAa, 2, none⟩ = some (.int .i64 a1_2) := (blk_cell BKAa.out 2).trans rfl
        have hcz37_3 : wc.cell? ⟨gbAa, 3, none⟩ = some (.int .i64 a1_3) := (blk_cell BKAa.out 3).trans rfl
        have hcz37_4 : wc.cell? ⟨gbAa, 4, none⟩ = some (.int .i64 a1_4) := (blk_cell BKAa.out 4).trans rfl
        have hcz37_5 : wc.cell? ⟨gbAa, 5, none⟩ = some (.slice A1_5 l1_5.length c1_5) := (blk_cell BKAa.out 5).trans rfl
        have hfz37_0 := blk_frozen BKAa.out 0
        have hfz37_1 := blk_frozen BKAa.out 1
        have hfz37_2 := blk_frozen BKAa.out 2
        have hfz37_3 := blk_frozen BKAa.out 3
        have hfz37_4 := blk_frozen BKAa.out 4
        have hfz37_5 := blk_frozen BKAa.out 5
        go_wp2_with (first | ((with_reducible refine gate_callee (f := 53) rfl ?_); refine gL_ 51 Try.func53 #[.agg #[.int .i64 a1_3, .int .i64 a1_4], .bool true] ?_; (with_reducible refine (plaitingref5_item.calls a1_3 a1_4 true true _ (by have hq_ := A33.out; rw [c35b0] at hq_; exact hq_)).mono ?_); rintro e w38 ⟨rfl, hb⟩; refine ⟨_, rfl, ?_⟩; replace BKAb := Aside0.mk (blk_below (pB_ BKAb.out) hb); replace BKAa := Aside0.mk (blk_below (pB_ BKAa.out) hb); replace HB := Aside0.mk (below_step (pH_ HB.out) hb); (try clear hb); (try clear hb2); (try clear hk); (try clear hi); have hcz39_0 : w38.cell? ⟨gbAa, 0, none⟩ = some (.int .i64 a1_0) := (blk_cell BKAa.out 0).trans rfl; have hcz39_1 : w38.cell? ⟨gbAa, 1, none⟩ = some (.int .i64 a1_1) := (blk_cell BKAa.out 1).trans rfl; have hcz39_2 : w38.cell? ⟨gbAa, 2, none⟩ = some (.int .i64 a1_2) := (blk_cell BKAa.out 2).trans rfl; have hcz39_3 : w38.cell? ⟨gbAa, 3, none⟩ = some (.int .i64 a1_3) := (blk_cell BKAa.out 3).trans rfl; have hcz39_4 : w38.cell? ⟨gbAa, 4, none⟩ = some (.int .i64 a1_4) := (blk_cell BKAa.out 4).trans rfl; have hcz39_5 : w38.cell? ⟨gbAa, 5, none⟩ = some (.slice A1_5 l1_5.length c1_5) := (blk_cell BKAa.out 5).trans rfl; have hfz39_0 := blk_frozen BKAa.out 0; have hfz39_1 := blk_frozen BKAa.out 1; have hfz39_2 := blk_frozen BKAa.out 2; have hfz39_3 := blk_frozen BKAa.out 3; have hfz39_4 := blk_frozen BKAa.out 4; have hfz39_5 := blk_frozen BKAa.out 5))
        go_meet
        case rel => exact ⟨_, (false), (by first | rfl | (simp; done) | (simp [*]; done)), H', ⟨by have := HJ2.out; have := HJ17.out; first | omega | exact Nat.le_refl _⟩, ⟨by (with_reducible repeat (first | refine blk_drewN ?_ _ | refine blk_drew ?_ | refine blk_alloc ?_ _)); exact BKAb.out⟩, ⟨by (with_reducible repeat (first | refine blk_drewN ?_ _ | refine blk_drew ?_ | refine blk_alloc ?_ _)); exact BKAa.out⟩, ⟨by repeat (first | (with_reducible first | exact HB.out | apply below_alloc | apply pw_below_drewN | apply below_drew1 | refine below_set ?_ GEAb.out | refine below_set ?_ GEAa.out) | exact HB.out)⟩⟩
       rw [if_neg c35] at H
       have c35b0 : (a1_0 == 3) = false := beq_eq_false_iff_ne.mpr c35
       have c35b1 : (a1_0 != 3) = true := bne_iff_ne.mpr c35
       (first | rw [c35b0] | (simp only [i64_w, i32_w]; rw [c35b0]) | skip)
       have H' := Aside0.mk H
       clear H
       have hnb40 := NBAa_Ab.out
       have hnc40 := NBAb_Aa.out
       have hcz41_0 : wc.cell? ⟨gbAa, 0, none⟩ = some (.int .i64 a1_0) := (blk_cell BKAa.out 0).trans rfl
       have hcz41_1 : wc.cell? ⟨gbAa, 1, none⟩ = some (.int .i64 a1_1) := (blk_cell BKAa.out 1).trans rfl
       have hcz41_2 : wc.cell? ⟨gbAa, 2, none⟩ = some (.int .i64 a1_2) := (blk_cell BKAa.out 2).trans rfl
       have hcz41_3 : wc.cell? ⟨gbAa, 3, none⟩ = some (.int .i64 a1_3) := (blk_cell BKAa.out 3).trans rfl
       have hcz41_4 : wc.cell? ⟨gbAa, 4, none⟩ = some (.int .i64 a1_4) := (blk_cell BKAa.out 4).trans rfl
       have hcz41_5 : wc.cell? ⟨gbAa, 5, none⟩ = some (.slice A1_5 l1_5.length c1_5) := (blk_cell BKAa.out 5).trans rfl
       have hfz41_0 := blk_frozen BKAa.out 0
       have hfz41_1 := blk_frozen BKAa.out 1
       have hfz41_2 := blk_frozen BKAa.out 2
       have hfz41_3 := blk_frozen BKAa.out 3
       have hfz41_4 := blk_frozen BKAa.out 4
       have hfz41_5 := blk_frozen BKAa.out 5
       go_wp2_with (first | ((with_reducible refine gate_callee (f := 53) rfl ?_); refine gL_ 51 Try.func53 #[.agg #[.int .i64 a1_3, .int .i64 a1_4], .bool false] ?_; (with_reducible refine (plaitingref5_item.calls a1_3 a1_4 false true _ (by have hq_ := A33.out; rw [c35b0] at hq_; exact hq_)).mono ?_); rintro e w42 ⟨rfl, hb⟩; refine ⟨_, rfl, ?_⟩; replace BKAb := Aside0.mk (blk_below (pB_ BKAb.out) hb); replace BKAa := Aside0.mk (blk_below (pB_ BKAa.out) hb); replace HB := Aside0.mk (below_step (pH_ HB.out) hb); (try clear hb); (try clear hb2); (try clear hk); (try clear hi); have hcz43_0 : w42.cell? ⟨gbAa, 0, none⟩ = some (.int .i64 a1_0) := (blk_cell BKAa.out 0).trans rfl; have hcz43_1 : w42.cell? ⟨gbAa, 1, none⟩ = some (.int .i64 a1_1) := (blk_cell BKAa.out 1).trans rfl; have hcz43_2 : w42.cell? ⟨gbAa, 2, none⟩ = some (.int .i64 a1_2) := (blk_cell BKAa.out 2).trans rfl; have hcz43_3 : w42.cell? ⟨gbAa, 3, none⟩ = some (.int .i64 a1_3) := (blk_cell BKAa.out 3).trans rfl; have hcz43_4 : w42.cell? ⟨gbAa, 4, none⟩ = some (.int .i64 a1_4) := (blk_cell BKAa.out 4).trans rfl; have hcz43_5 : w42.cell? ⟨gbAa, 5, none⟩ = some (.slice A1_5 l1_5.length c1_5) := (blk_cell BKAa.out 5).trans rfl; have hfz43_0 := blk_frozen BKAa.out 0; have hfz43_1 := blk_frozen BKAa.out 1; have hfz43_2 := blk_frozen BKAa.out 2; have hfz43_3 := blk_frozen BKAa.out 3; have hfz43_4 := blk_frozen BKAa.out 4; have hfz43_5 := blk_frozen BKAa.out 5))
       go_meet
       case rel => exact ⟨_, ((a1_3 != 0)), (by first | rfl | (simp; done) | (simp [*]; done)), H', ⟨by have := HJ2.out; have := HJ17.out; first | omega | exact Nat.le_refl _⟩, ⟨by (with_reducible repeat (first | refine blk_drewN ?_ _ | refine blk_drew ?_ | refine blk_alloc ?_ _)); exact BKAb.out⟩, ⟨by (with_reducible repeat (first | refine blk_drewN ?_ _ | refine blk_drew ?_ | refine blk_alloc ?_ _)); exact BKAa.out⟩, ⟨by repeat (first | (with_reducible first | exact HB.out | apply below_alloc | apply pw_below_drewN | apply below_drew1 | refine below_set ?_ GEAb.out | refine below_set ?_ GEAa.out) | exact HB.out)⟩⟩
      replace c34 := Bool.eq_false_iff.mpr c34
      subst c34
      have H1 : (plaitingref5_Check.j2 kj17 true a0_0 a0_1 a0_2 a0_3 a0_4 l0_5 a1_0 a1_1 a1_2 a1_3 a1_4 l1_5) = some r := by rw [if_neg (show ¬ (false = true) by decide)] at H; exact H
      clear H
      have H := H1
      clear H1
      have H' := Aside0.mk H
      clear H
      have hnb44 := NBAa_Ab.out
      have hnc44 := NBAb_Aa.out
      have hcz45_0 : wc.cell? ⟨gbAa, 0, none⟩ = some (.int .i64 a1_0) := (blk_cell BKAa.out 0).trans rfl
      have hcz45_1 : wc.cell? ⟨gbAa, 1, none⟩ = some (.int .i64 a1_1) := (blk_cell BKAa.out 1).trans rfl
      have hcz45_2 : wc.cell? ⟨gbAa, 2, none⟩ = some (.int .i64 a1_2) := (blk_cell BKAa.out 2).trans rfl
      have hcz45_3 : wc.cell? ⟨gbAa, 3, none⟩ = some (.int .i64 a1_3) := (blk_cell BKAa.out 3).trans rfl
      have hcz45_4 : wc.cell? ⟨gbAa, 4, none⟩ = some (.int .i64 a1_4) := (blk_cell BKAa.out 4).trans rfl
      have hcz45_5 : wc.cell? ⟨gbAa, 5, none⟩ = some (.slice A1_5 l1_5.length c1_5) := (blk_cell BKAa.out 5).trans rfl
      have hfz45_0 := blk_frozen BKAa.out 0
      have hfz45_1 := blk_frozen BKAa.out 1
      have hfz45_2 := blk_frozen BKAa.out 2
      have hfz45_3 := blk_frozen BKAa.out 3
      have hfz45_4 := blk_frozen BKAa.out 4
      have hfz45_5 := blk_frozen BKAa.out 5
      go_wp2_with (first | ((with_reducible refine gate_callee (f := 53) rfl ?_); refine gL_ 51 Try.func53 #[.agg #[.int .i64 a1_3, .int .i64 a1_4], .bool (a1_0 == 3)] ?_; (with_reducible refine (plaitingref5_item.calls a1_3 a1_4 (a1_0 == 3) false _ A33.out).mono ?_); rintro e w46 ⟨rfl, hb⟩; refine ⟨_, rfl, ?_⟩; replace BKAb := Aside0.mk (blk_below (pB_ BKAb.out) hb); replace BKAa := Aside0.mk (blk_below (pB_ BKAa.out) hb); replace HB := Aside0.mk (below_step (pH_ HB.out) hb); (try clear hb); (try clear hb2); (try clear hk); (try clear hi)))
      go_meet
      case rel => exact ⟨_, (true), (by first | rfl | (simp; done) | (simp [*]; done)), H', ⟨by have := HJ2.out; have := HJ17.out; first | omega | exact Nat.le_refl _⟩, ⟨by (with_reducible repeat (first | refine blk_drewN ?_ _ | refine blk_drew ?_ | refine blk_alloc ?_ _)); exact BKAb.out⟩, ⟨by (with_reducible repeat (first | refine blk_drewN ?_ _ | refine blk_drew ?_ | refine blk_alloc ?_ _)); exact BKAa.out⟩, ⟨by repeat (first | (with_reducible first | exact HB.out | apply below_alloc | apply pw_below_drewN | apply below_drew1 | refine below_set ?_ GEAb.out | refine below_set ?_ GEAa.out) | exact HB.out)⟩⟩
     case rest =>
      clear HC32
      try clear c1
      try clear c2
      try clear p2
      try clear c3
      try clear c4
      try clear c5
      try clear c6
      try clear c6b0
      try clear c9
      try clear c9b0
      try clear c12
      try clear c12b0
      try clear c17
      try clear c19
      try clear c19b0
      try clear c20
      try clear c22
      try clear c22b0
      try clear c23
      try clear c25
      try clear c25b0
      try clear c25b1
      try clear c26
      try clear c28
      try clear c31
      try clear c34
      try clear c35
      try clear c35b0
      try clear c35b1
      try clear c36
      try clear c40
      try clear c44
      try clear hcz21_0
      try clear hcz21_1
      try clear hcz21_2
      try clear hcz21_3
      try clear hcz21_4
      try clear hcz21_5
      try clear hcz24_0
      try clear hcz24_1
      try clear hcz24_2
      try clear hcz24_3
      try clear hcz24_4
      try clear hcz24_5
      try clear hcz27_0
      try clear hcz27_1
      try clear hcz27_2
      try clear hcz27_3
      try clear hcz27_4
      try clear hcz27_5
      try clear hcz29_0
      try clear hcz29_1
      try clear hcz29_2
      try clear hcz29_3
      try clear hcz29_4
      try clear hcz29_5
      try clear hcz30_0
      try clear hcz30_1
      try clear hcz30_2
      try clear hcz30_3
      try clear hcz30_4
      try clear hcz30_5
      try clear hcz37_0
      try clear hcz37_1
      try clear hcz37_2
      try clear hcz37_3
      try clear hcz37_4
      try clear hcz37_5
      try clear hcz39_0
      try clear hcz39_1
      try clear hcz39_2
      try clear hcz39_3
      try clear hcz39_4
      try clear hcz39_5
      try clear hcz41_0
      try clear hcz41_1
      try clear hcz41_2
      try clear hcz41_3
      try clear hcz41_4
      try clear hcz41_5
      try clear hcz43_0
      try clear hcz43_1
      try clear hcz43_2
      try clear hcz43_3
      try clear hcz43_4
      try clear hcz43_5
      try clear hcz45_0
      try clear hcz45_1
      try clear hcz45_2
      try clear hcz45_3
      try clear hcz45_4
      try clear hcz45_5
      try clear hfz21_0
      try clear hfz21_1
      try clear hfz21_2
      try clear hfz21_3
      try clear hfz21_4
      try clear hfz21_5
      try clear hfz24_0
      try clear hfz24_1
      try clear hfz24_2
      try clear hfz24_3
      try clear hfz24_4
      try clear hfz24_5
      try clear hfz27_0
      try clear hfz27_1
      try clear hfz27_2
      try clear hfz27_3
      try clear hfz27_4
      try clear hfz27_5
      try clear hfz29_0
      try clear hfz29_1
      try clear hfz29_2
      try clear hfz29_3
      try clear hfz29_4
      try clear hfz29_5
      try clear hfz30_0
      try clear hfz30_1
      try clear hfz30_2
      try clear hfz30_3
      try clear hfz30_4
      try clear hfz30_5
      try clear hfz37_0
      try clear hfz37_1
      try clear hfz37_2
      try clear hfz37_3
      try clear hfz37_4
      try clear hfz37_5
      try clear hfz39_0
      try clear hfz39_1
      try clear hfz39_2
      try clear hfz39_3
      try clear hfz39_4
      try clear hfz39_5
      try clear hfz41_0
      try clear hfz41_1
      try clear hfz41_2
      try clear hfz41_3
      try clear hfz41_4
      try clear hfz41_5
      try clear hfz43_0
      try clear hfz43_1
      try clear hfz43_2
      try clear hfz43_3
      try clear hfz43_4
      try clear hfz43_5
      try clear hfz45_0
      try clear hfz45_1
      try clear hfz45_2
      try clear hfz45_3
      try clear hfz45_4
      try clear hfz45_5
      try clear p2
      obtain ⟨kq, x63_31, rfl, HA, HJ31, BKAb, BKAa, HB⟩ := hcut
      cases kq with
      | zero => exact absurd HA.out (by simp [plaitingref5_Check.j2])
      | succ kj31 =>
       have H := HA.out
       clear HA
       simp only [plaitingref5_Check.j2] at H
       by_cases c47 : x63_31 = true
       ·
        subst c47
        have H1 : (some 1) = some r := by rw [if_pos rfl] at H; exact H
        clear H
        have H := H1
        clear H1
        obtain rfl := Option.some.inj H
        go_wp2
        go_ret
        exact ⟨by first | rfl | (simp [errW_none, errW_some] <;> rfl) | (simp [*, errW_none, errW_some] <;> rfl), by repeat (first | (with_reducible first | exact HB.out | apply below_alloc | apply pw_below_drewN | apply below_drew1 | refine below_set ?_ GEAb.out | refine below_set ?_ GEAa.out) | exact HB.out)⟩
       replace c47 := Bool.eq_false_iff.mpr c47
       subst c47
       have H1 : ((plaitingref5_echoes.f a0_0 a0_1 a0_2 a0_3 a0_4 l0_5 a1_0 a1_2).bind fun tAg => (if (l1_5.length : Int) = tAg then (plaitingref5_Check.l0 kj31 0 a1_0 a1_1 a1_2 a1_3 a1_4 l1_5) else (some 2))) = some r := by rw [if_neg (show ¬ (false = true) by decide)] at H; exact H
       clear H
       have H := H1
       clear H1
       replace H := Option.bind_eq_some_iff.mp H
       obtain ⟨tAg, A480, H⟩ := H
       replace H : (if (l1_5.length : Int) = tAg then (plaitingref5_Check.l0 kj31 0 a1_0 a1_1 a1_2 a1_3 a1_4 l1_5) else (some 2)) = some r := H
       have A48 := Aside0.mk A480
       clear A480
       by_cases c49 : (l1_5.length : Int) = tAg
       ·
        rw [if_pos c49] at H
        have c49b0 : ((l1_5.length : Int) == tAg) = true := beq_iff_eq.mpr c49
        have c49b1 : ((l1_5.length : Int) != tAg) = false := bne_eq_false_iff_eq.mpr c49
        clear c49
        have H' := Aside0.mk H
        clear H
        try go_wp2
        replace BKAb := Aside0.mk (blk_drew BKAb.out)
        replace BKAa := Aside0.mk (blk_drew BKAa.out)
        replace HB := Aside0.mk (below_drew1 HB.out)
        refine start_ (n := 10) (S := fun w' => w'.cell? ⟨gbAa, 0, none⟩ = some (.int .i64 a1_0) ∧ w'.cell? ⟨gbAa, 1, none⟩ = some (.int .i64 a1_1) ∧ w'.cell? ⟨gbAa, 2, none⟩ = some (.int .i64 a1_2) ∧ w'.cell? ⟨gbAa, 3, none⟩ = some (.int .i64 a1_3) ∧ w'.cell? ⟨gbAa, 4, none⟩ = some (.int .i64 a1_4) ∧ w'.cell? ⟨gbAa, 5, none⟩ = some (.slice A1_5 l1_5.length c1_5) ∧ w'.cell? ⟨gbAb, 0, none⟩ = some (.int .i64 a0_0) ∧ w'.cell? ⟨gbAb, 1, none⟩ = some (.int .i64 a0_1) ∧ w'.cell? ⟨gbAb, 2, none⟩ = some (.int .i64 a0_2) ∧ w'.cell? ⟨gbAb, 3, none⟩ = some (.int .i64 a0_3) ∧ w'.cell? ⟨gbAb, 4, none⟩ = some (.int .i64 a0_4) ∧ w'.cell? ⟨gbAb, 5, none⟩ = some (.slice A0_5 l0_5.length c0_5)) (ds := []) #[false, false, false, false, false, false, false, false, false, false] (by kernel_rfl) rfl rfl ⟨(blk_cell BKAa.out 0).trans rfl, (blk_cell BKAa.out 1).trans rfl, (blk_cell BKAa.out 2).trans rfl, (blk_cell BKAa.out 3).trans rfl, (blk_cell BKAa.out 4).trans rfl, (blk_cell BKAa.out 5).trans rfl, (blk_cell BKAb.out 0).trans rfl, (blk_cell BKAb.out 1).trans rfl, (blk_cell BKAb.out 2).trans rfl, (blk_cell BKAb.out 3).trans rfl, (blk_cell BKAb.out 4).trans rfl, (blk_cell BKAb.out 5).trans rfl⟩ (fun hHeld => ?_); refine with_tabW plaitingref5_Check.tab7 plaitingref5_Check.bits7 (fun HT_ HW_ => ?_)
        generalize wc.drew = w50 at BKAb BKAa HB hHeld ⊢
        refine pq_ 0 64 HT_ ?_
        refine pq_ 4 68 HT_ ?_
        refine pq_ 6 70 HT_ ?_
        refine tq_ 1 65 HT_ HW_ hHeld ?_
        refine pq_ 2 66 HT_ ?_
        refine tq_ 3 67 HT_ HW_ hHeld ?_
        refine tq_ 5 69 HT_ HW_ hHeld ?_
        refine tq_ 7 71 HT_ HW_ hHeld ?_
        refine oq_ 8 72 HT_ (fun K hK => ?_)
        refine gs_ Try.func54 #[.agg #[.int .i64 a0_0, .int .i64 a0_1, .int .i64 a0_2, .int .i64 a0_3, .int .i64 a0_4, .slice A0_5 l0_5.length c0_5], .int .i64 a1_0, .int .i64 a1_2] ?_
        with_reducible refine (plaitingref5_echoes.calls a0_0 a0_1 a0_2 a0_3 a0_4 _ _ l0_5 a1_0 a1_2 tAg _ ?side1 ?side2 A48.out).mono ?_
        (case side1 => exact cC_ (Kd.C_below HR0_5.out HB.out))
        (case side2 => exact HC0_5.out)
        rintro e w51 ⟨rfl, hb⟩
        refine ⟨_, rfl, ?_⟩
        replace BKAb := Aside0.mk (blk_below (pB_ BKAb.out) hb)
        replace BKAa := Aside0.mk (blk_below (pB_ BKAa.out) hb)
        replace HB := Aside0.mk (below_step (pH_ HB.out) hb)
        (try clear hb)
        (try clear hb2)
        (try clear hk)
        (try clear hi)
        refine hK.out _ _ ⟨(blk_cell BKAa.out 0).trans rfl, (blk_cell BKAa.out 1).trans rfl, (blk_cell BKAa.out 2).trans rfl, (blk_cell BKAa.out 3).trans rfl, (blk_cell BKAa.out 4).trans rfl, (blk_cell BKAa.out 5).trans rfl, (blk_cell BKAb.out 0).trans rfl, (blk_cell BKAb.out 1).trans rfl, (blk_cell BKAb.out 2).trans rfl, (blk_cell BKAb.out 3).trans rfl, (blk_cell BKAb.out 4).trans rfl, (blk_cell BKAb.out 5).trans rfl⟩ (fun hHeld => ?_)
        clear hK K
        refine nq_ 72 ?_
        refine pq_ 9 73 HT_ ?_
        refine done_ (done_of HT_.out (by kernel_rfl)) ?_
        try go_wp2
        go_loopg [5] kj31 (fun kq v5 w' => ∃ (x5_4 : Int), v5 = .int .i64 x5_4 ∧ Aside0 (plaitingref5_Check.l0 kq x5_4 a1_0 a1_1 a1_2 a1_3 a1_4 l1_5 = some r) ∧ Aside0 (kq ≤ kj31) ∧ Aside0 (w'.heap[gbAb]? = some (.cells #[.int .i64 a0_0, .int .i64 a0_1, .int .i64 a0_2, .int .i64 a0_3, .int .i64 a0_4, (.slice A0_5 l0_5.length c0_5)] 24 (0, 0))) ∧ Aside0 (w'.heap[gbAa]? = some (.cells #[.int .i64 a1_0, .int .i64 a1_1, .int .i64 a1_2, .int .i64 a1_3, .int .i64 a1_4, (.slice A1_5 l1_5.length c1_5)] 29 (0, 0))) ∧ Aside0 (Below w.heap.size w w'))
        case atStart => exact ⟨(0), (by first | rfl | (simp; done) | (simp [*]; done)), H', ⟨Nat.le_refl _⟩, ⟨by (with_reducible repeat (first | refine blk_drewN ?_ _ | refine blk_drew ?_ | refine blk_alloc ?_ _)); exact BKAb.out⟩, ⟨by (with_reducible repeat (first | refine blk_drewN ?_ _ | refine blk_drew ?_ | refine blk_alloc ?_ _)); exact BKAa.out⟩, ⟨by repeat (first | (with_reducible first | exact HB.out | apply below_alloc | apply pw_below_drewN | apply below_drew1 | refine below_set ?_ GEAb.out | refine below_set ?_ GEAa.out) | exact HB.out)⟩⟩
        case round =>
         clear H'
         try clear c1
         try clear c2
         try clear p2
         try clear c3
         try clear c4
         try clear c5
         try clear c6
         try clear c6b0
         try clear c9
         try clear c9b0
         try clear c12
         try clear c12b0
         try clear c17
         try clear c19
         try clear c19b0
         try clear c20
         try clear c22
         try clear c22b0
         try clear c23
         try clear c25
         try clear c25b0
         try clear c25b1
         try clear c26
         try clear c28
         try clear c31
         try clear c34
         try clear c35
         try clear c35b0
         try clear c35b1
         try clear c36
         try clear c40
         try clear c44
         try clear c47
         try clear c49
         try clear c49b0
         try clear c49b1
         try clear hcz21_0
         try clear hcz21_1
         try clear hcz21_2
         try clear hcz21_3
         try clear hcz21_4
         try clear hcz21_5
         try clear hcz24_0
         try clear hcz24_1
         try clear hcz24_2
         try clear hcz24_3
         try clear hcz24_4
         try clear hcz24_5
         try clear hcz27_0
         try clear hcz27_1
         try clear hcz27_2
         try clear hcz27_3
         try clear hcz27_4
         try clear hcz27_5
         try clear hcz29_0
         try clear hcz29_1
         try clear hcz29_2
         try clear hcz29_3
         try clear hcz29_4
         try clear hcz29_5
         try clear hcz30_0
         try clear hcz30_1
         try clear hcz30_2
         try clear hcz30_3
         try clear hcz30_4
         try clear hcz30_5
         try clear hcz37_0
         try clear hcz37_1
         try clear hcz37_2
         try clear hcz37_3
         try clear hcz37_4
         try clear hcz37_5
         try clear hcz39_0
         try clear hcz39_1
         try clear hcz39_2
         try clear hcz39_3
         try clear hcz39_4
         try clear hcz39_5
         try clear hcz41_0
         try clear hcz41_1
         try clear hcz41_2
         try clear hcz41_3
         try clear hcz41_4
         try clear hcz41_5
         try clear hcz43_0
         try clear hcz43_1
         try clear hcz43_2
         try clear hcz43_3
         try clear hcz43_4
         try clear hcz43_5
         try clear hcz45_0
         try clear hcz45_1
         try clear hcz45_2
         try clear hcz45_3
         try clear hcz45_4
         try clear hcz45_5
         try clear hfz21_0
         try clear hfz21_1
         try clear hfz21_2
         try clear hfz21_3
         try clear hfz21_4
         try clear hfz21_5
         try clear hfz24_0
         try clear hfz24_1
         try clear hfz24_2
         try clear hfz24_3
         try clear hfz24_4
         try clear hfz24_5
         try clear hfz27_0
         try clear hfz27_1
         try clear hfz27_2
         try clear hfz27_3
         try clear hfz27_4
         try clear hfz27_5
         try clear hfz29_0
         try clear hfz29_1
         try clear hfz29_2
         try clear hfz29_3
         try clear hfz29_4
         try clear hfz29_5
         try clear hfz30_0
         try clear hfz30_1
         try clear hfz30_2
         try clear hfz30_3
         try clear hfz30_4
         try clear hfz30_5
         try clear hfz37_0
         try clear hfz37_1
         try clear hfz37_2
         try clear hfz37_3
         try clear hfz37_4
         try clear hfz37_5
         try clear hfz39_0
         try clear hfz39_1
         try clear hfz39_2
         try clear hfz39_3
         try clear hfz39_4
         try clear hfz39_5
         try clear hfz41_0
         try clear hfz41_1
         try clear hfz41_2
         try clear hfz41_3
         try clear hfz41_4
         try clear hfz41_5
         try clear hfz43_0
         try clear hfz43_1
         try clear hfz43_2
         try clear hfz43_3
         try clear hfz43_4
         try clear hfz43_5
         try clear hfz45_0
         try clear hfz45_1
         try clear hfz45_2
         try clear hfz45_3
         try clear hfz45_4
         try clear hfz45_5
         try clear p2
         obtain ⟨x5_4, rfl, HA, HK4, BKAb, BKAa, HB⟩ := hrel
         cases gk with
         | zero => exact absurd HA.out (by simp [plaitingref5_Check.l0])
         | succ k4 =>
          have H := HA.out
          clear HA
          simp only [plaitingref5_Check.l0] at H
          by_cases c52 : x5_4 < (l1_5.length : Int)
          ·
           rw [if_pos c52] at H
           have c52b0 : decide (x5_4 < (l1_5.length : Int)) = true := decide_eq_true c52
           clear c52
           by_cases c53 : 0 ≤ x5_4
           rotate_left
           ·
            rw [if_neg c53] at H
            exact absurd H (by simp)
           rw [if_pos c53] at H
           have c53b0 : decide (0 ≤ x5_4) = true := decide_eq_true c53
           clear c53
           replace H := Option.bind_eq_some_iff.mp H
           obtain ⟨tAj, A540, H⟩ := H
           replace H : (if tAj = true then (plaitingref5_Check.l0 k4 (wrap64 (x5_4 + 1)) a1_0 a1_1 a1_2 a1_3 a1_4 l1_5) else (some 1)) = some r := H
           have A54 := Aside0.mk A540
           clear A540
           by_cases c55 : tAj = true
           ·
            subst c55
            have H1 : (plaitingref5_Check.l0 k4 (wrap64 (x5_4 + 1)) a1_0 a1_1 a1_2 a1_3 a1_4 l1_5) = some r := by rw [if_pos rfl] at H; exact H
            clear H
            have H := H1
            clear H1
            have H' := Aside0.mk H
            clear H
            have hnb56 := NBAa_Ab.out
            have hnc56 := NBAb_Aa.out
            have hcz57_0 : wr.cell? ⟨gbAa, 0, none⟩ = some (.int .i64 a1_0) := (blk_cell BKAa.out 0).trans rfl
            have hcz57_1 : wr.cell? ⟨gbAa, 1, none⟩ = some (.int .i64 a1_1) := (blk_cell BKAa.out 1).trans rfl
            have hcz57_2 : wr.cell? ⟨gbAa, 2, none⟩ = some (.int .i64 a1_2) := (blk_cell BKAa.out 2).trans rfl
            have hcz57_3 : wr.cell? ⟨gbAa, 3, none⟩ = some (.int .i64 a1_3) := (blk_cell BKAa.out 3).trans rfl
            have hcz57_4 : wr.cell? ⟨gbAa, 4, none⟩ = some (.int .i64 a1_4) := (blk_cell BKAa.out 4).trans rfl
            have hcz57_5 : wr.cell? ⟨gbAa, 5, none⟩ = some (.slice A1_5 l1_5.length c1_5) := (blk_cell BKAa.out 5).trans rfl
            have hfz57_0 := blk_frozen BKAa.out 0
            have hfz57_1 := blk_frozen BKAa.out 1
            have hfz57_2 := blk_frozen BKAa.out 2
            have hfz57_3 := blk_frozen BKAa.out 3
            have hfz57_4 := blk_frozen BKAa.out 4
            have hfz57_5 := blk_frozen BKAa.out 5
            have pAf : 0 ≤ (x5_4 : Int) := of_decide_eq_true (by first | (with_reducible assumption) | assumption)
            have qAf : x5_4 < (l1_5.length : Int) := of_decide_eq_true (by first | (with_reducible assumption) | assumption)
            obtain ⟨adAf, eAf, hxAf_0, hxAf_1⟩ := at_T26 HR1_5.out x5_4 pAf qAf
            cases eAf
            replace hxAf_0 := (HB.out.cell (World.block_lt_of_cell? w _ hxAf_0)).trans hxAf_0
            replace hxAf_1 := (HB.out.cell (World.block_lt_of_cell? w _ hxAf_1)).trans hxAf_1
            replace pAf := eq_true pAf
            replace qAf := eq_true qAf
            go_wp2_with (first | ((with_reducible refine gate_callee (f := 53) rfl ?_); refine gL_ 86 Try.func53 #[.agg #[.int .i64 ((rd_T26 l1_5 x5_4).f0), .int .i64 ((rd_T26 l1_5 x5_4).f1)], .bool false] ?_; (with_reducible refine (plaitingref5_item.calls ((rd_T26 l1_5 x5_4).f0) ((rd_T26 l1_5 x5_4).f1) false true _ A54.out).mono ?_); rintro e w58 ⟨rfl, hb⟩; refine ⟨_, rfl, ?_⟩; replace BKAb := Aside0.mk (blk_below (pB_ BKAb.out) hb); replace BKAa := Aside0.mk (blk_below (pB_ BKAa.out) hb); replace HB := Aside0.mk (below_step (pH_ HB.out) hb); (try clear hb); (try clear hb2); (try clear hk); (try clear hi)))
            go_roundg k4
            case measure => have := HJ2.out; have := HJ17.out; have := HJ31.out; have := HK4.out; omega
            case rel => exact ⟨(wrap64 (x5_4 + 1)), (by first | rfl | (simp; done) | (simp [*]; done)), H', ⟨by have := HJ2.out; have := HJ17.out; have := HJ31.out; have := HK4.out; omega⟩, ⟨by (with_reducible repeat (first | refine blk_drewN ?_ _ | refine blk_drew ?_ | refine blk_alloc ?_ _)); exact BKAb.out⟩, ⟨by (with_reducible repeat (first | refine blk_drewN ?_ _ | refine blk_drew ?_ | refine blk_alloc ?_ _)); exact BKAa.out⟩, ⟨by repeat (first | (with_reducible first | exact HB.out | apply below_alloc | apply pw_below_drewN | apply below_drew1 | refine below_set ?_ GEAb.out | refine below_set ?_ GEAa.out) | exact HB.out)⟩⟩
           replace c55 := Bool.eq_false_iff.mpr c55
           subst c55
           have H1 : (some 1) = some r := by rw [if_neg (show ¬ (false = true) by decide)] at H; exact H
           clear H
           have H := H1
           clear H1
           obtain rfl := Option.some.inj H
           have hnb59 := NBAa_Ab.out
           have hnc59 := NBAb_Aa.out
           have hcz60_0 : wr.cell? ⟨gbAa, 0, none⟩ = some (.int .i64 a1_0) := (blk_cell BKAa.out 0).trans rfl
           have hcz60_1 : wr.cell? ⟨gbAa, 1, none⟩ = some (.int .i64 a1_1) := (blk_cell BKAa.out 1).trans rfl
           have hcz60_2 : wr.cell? ⟨gbAa, 2, none⟩ = some (.int .i64 a1_2) := (blk_cell BKAa.out 2).trans rfl
           have hcz60_3 : wr.cell? ⟨gbAa, 3, none⟩ = some (.int .i64 a1_3) := (blk_cell BKAa.out 3).trans rfl
           have hcz60_4 : wr.cell? ⟨gbAa, 4, none⟩ = some (.int .i64 a1_4) := (blk_cell BKAa.out 4).trans rfl
           have hcz60_5 : wr.cell? ⟨gbAa, 5, none⟩ = some (.slice A1_5 l1_5.length c1_5) := (blk_cell BKAa.out 5).trans rfl
           have hfz60_0 := blk_frozen BKAa.out 0
           have hfz60_1 := blk_frozen BKAa.out 1
           have hfz60_2 := blk_frozen BKAa.out 2
           have hfz60_3 := blk_frozen BKAa.out 3
           have hfz60_4 := blk_frozen BKAa.out 4
           have hfz60_5 := blk_frozen BKAa.out 5
           have pAf : 0 ≤ (x5_4 : Int) := of_decide_eq_true (by first | (with_reducible assumption) | assumption)
           have qAf : x5_4 < (l1_5.length : Int) := of_decide_eq_true (by first | (with_reducible assumption) | assumption)
           obtain ⟨adAf, eAf, hxAf_0, hxAf_1⟩ := at_T26 HR1_5.out x5_4 pAf qAf
           cases eAf
           replace hxAf_0 := (HB.out.cell (World.block_lt_of_cell? w _ hxAf_0)).trans hxAf_0
           replace hxAf_1 := (HB.out.cell (World.block_lt_of_cell? w _ hxAf_1)).trans hxAf_1
           replace pAf := eq_true pAf
           replace qAf := eq_true qAf
           go_wp2_with (first | ((with_reducible refine gate_callee (f := 53) rfl ?_); refine gL_ 86 Try.func53 #[.agg #[.int .i64 ((rd_T26 l1_5 x5_4).f0), .int .i64 ((rd_T26 l1_5 x5_4).f1)], .bool false] ?_; (with_reducible refine (plaitingref5_item.calls ((rd_T26 l1_5 x5_4).f0) ((rd_T26 l1_5 x5_4).f1) false false _ A54.out).mono ?_); rintro e w61 ⟨rfl, hb⟩; refine ⟨_, rfl, ?_⟩; replace BKAb := Aside0.mk (blk_below (pB_ BKAb.out) hb); replace BKAa := Aside0.mk (blk_below (pB_ BKAa.out) hb); replace HB := Aside0.mk (below_step (pH_ HB.out) hb); (try clear hb); (try clear hb2); (try clear hk); (try clear hi)))
           go_ret
           exact ⟨by first | rfl | (simp [errW_none, errW_some] <;> rfl) | (simp [*, errW_none, errW_some] <;> rfl), by repeat (first | (with_reducible first | exact HB.out | apply below_alloc | apply pw_below_drewN | apply below_drew1 | refine below_set ?_ GEAb.out | refine below_set ?_ GEAa.out) | exact HB.out)⟩
          rw [if_neg c52] at H
          have c52b0 : decide (x5_4 < (l1_5.length : Int)) = false := decide_eq_false c52
          clear c52
          obtain rfl := Option.some.inj H
          have hnb62 := NBAa_Ab.out
          have hnc62 := NBAb_Aa.out
          have hcz63_0 : wr.cell? ⟨gbAa, 0, none⟩ = some (.int .i64 a1_0) := (blk_cell BKAa.out 0).trans rfl
          have hcz63_1 : wr.cell? ⟨gbAa, 1, none⟩ = some (.int .i64 a1_1) := (blk_cell BKAa.out 1).trans rfl
          have hcz63_2 : wr.cell? ⟨gbAa, 2, none⟩ = some (.int .i64 a1_2) := (blk_cell BKAa.out 2).trans rfl
          have hcz63_3 : wr.cell? ⟨gbAa, 3, none⟩ = some (.int .i64 a1_3) := (blk_cell BKAa.out 3).trans rfl
          have hcz63_4 : wr.cell? ⟨gbAa, 4, none⟩ = some (.int .i64 a1_4) := (blk_cell BKAa.out 4).trans rfl
          have hcz63_5 : wr.cell? ⟨gbAa, 5, none⟩ = some (.slice A1_5 l1_5.length c1_5) := (blk_cell BKAa.out 5).trans rfl
          have hfz63_0 := blk_frozen BKAa.out 0
          have hfz63_1 := blk_frozen BKAa.out 1
          have hfz63_2 := blk_frozen BKAa.out 2
          have hfz63_3 := blk_frozen BKAa.out 3
          have hfz63_4 := blk_frozen BKAa.out 4
          have hfz63_5 := blk_frozen BKAa.out 5
          go_wp2
          go_ret
          exact ⟨by first | rfl | (simp [errW_none, errW_some] <;> rfl) | (simp [*, errW_none, errW_some] <;> rfl), by repeat (first | (with_reducible first | exact HB.out | apply below_alloc | apply pw_below_drewN | apply below_drew1 | refine below_set ?_ GEAb.out | refine below_set ?_ GEAa.out) | exact HB.out)⟩
       rw [if_neg c49] at H
       have c49b0 : ((l1_5.length : Int) == tAg) = false := beq_eq_false_iff_ne.mpr c49
       have c49b1 : ((l1_5.length : Int) != tAg) = true := bne_iff_ne.mpr c49
       obtain rfl := Option.some.inj H
       try go_wp2
       replace BKAb := Aside0.mk (blk_drew BKAb.out)
       replace BKAa := Aside0.mk (blk_drew BKAa.out)
       replace HB := Aside0.mk (below_drew1 HB.out)
       refine start_ (n := 10) (S := fun w' => w'.cell? ⟨gbAa, 0, none⟩ = some (.int .i64 a1_0) ∧ w'.cell? ⟨gbAa, 1, none⟩ = some (.int .i64 a1_1) ∧ w'.cell? ⟨gbAa, 2, none⟩ = some (.int .i64 a1_2) ∧ w'.cell? ⟨gbAa, 3, none⟩ = some (.int .i64 a1_3) ∧ w'.cell? ⟨gbAa, 4, none⟩ = some (.int .i64 a1_4) ∧ w'.cell? ⟨gbAa, 5, none⟩ = some (.slice A1_5 l1_5.length c1_5) ∧ w'.cell? ⟨gbAb, 0, none⟩ = some (.int .i64 a0_0) ∧ w'.cell? ⟨gbAb, 1, none⟩ = some (.int .i64 a0_1) ∧ w'.cell? ⟨gbAb, 2, none⟩ = some (.int .i64 a0_2) ∧ w'.cell? ⟨gbAb, 3, none⟩ = some (.int .i64 a0_3) ∧ w'.cell? ⟨gbAb, 4, none⟩ = some (.int .i64 a0_4) ∧ w'.cell? ⟨gbAb, 5, none⟩ = some (.slice A0_5 l0_5.length c0_5)) (ds := []) #[false, false, false, false, false, false, false, false, false, false] (by kernel_rfl) rfl rfl ⟨(blk_cell BKAa.out 0).trans rfl, (blk_cell BKAa.out 1).trans rfl, (blk_cell BKAa.out 2).trans rfl, (blk_cell BKAa.out 3).trans rfl, (blk_cell BKAa.out 4).trans rfl, (blk_cell BKAa.out 5).trans rfl, (blk_cell BKAb.out 0).trans rfl, (blk_cell BKAb.out 1).trans rfl, (blk_cell BKAb.out 2).trans rfl, (blk_cell BKAb.out 3).trans rfl, (blk_cell BKAb.out 4).trans rfl, (blk_cell BKAb.out 5).trans rfl⟩ (fun hHeld => ?_); refine with_tabW plaitingref5_Check.tab7 plaitingref5_Check.bits7 (fun HT_ HW_ => ?_)
       generalize wc.drew = w64 at BKAb BKAa HB hHeld ⊢
       refine pq_ 0 64 HT_ ?_
       refine pq_ 4 68 HT_ ?_
       refine pq_ 6 70 HT_ ?_
       refine tq_ 1 65 HT_ HW_ hHeld ?_
       refine pq_ 2 66 HT_ ?_
       refine tq_ 3 67 HT_ HW_ hHeld ?_
       refine tq_ 5 69 HT_ HW_ hHeld ?_
       refine tq_ 7 71 HT_ HW_ hHeld ?_
       refine oq_ 8 72 HT_ (fun K hK => ?_)
       refine gs_ Try.func54 #[.agg #[.int .i64 a0_0, .int .i64 a0_1, .int .i64 a0_2, .int .i64 a0_3, .int .i64 a0_4, .slice A0_5 l0_5.length c0_5], .int .i64 a1_0, .int .i64 a1_2] ?_
       with_reducible refine (plaitingref5_echoes.calls a0_0 a0_1 a0_2 a0_3 a0_4 _ _ l0_5 a1_0 a1_2 tAg _ ?side1 ?side2 A48.out).mono ?_
       (case side1 => exact cC_ (Kd.C_below HR0_5.out HB.out))
       (case side2 => exact HC0_5.out)
       rintro e w65 ⟨rfl, hb⟩
       refine ⟨_, rfl, ?_⟩
       replace BKAb := Aside0.mk (blk_below (pB_ BKAb.out) hb)
       replace BKAa := Aside0.mk (blk_below (pB_ BKAa.out) hb)
       replace HB := Aside0.mk (below_step (pH_ HB.out) hb)
       (try clear hb)
       (try clear hb2)
       (try clear hk)
       (try clear hi)
       refine hK.out _ _ ⟨(blk_cell BKAa.out 0).trans rfl, (blk_cell BKAa.out 1).trans rfl, (blk_cell BKAa.out 2).trans rfl, (blk_cell BKAa.out 3).trans rfl, (blk_cell BKAa.out 4).trans rfl, (blk_cell BKAa.out 5).trans rfl, (blk_cell BKAb.out 0).trans rfl, (blk_cell BKAb.out 1).trans rfl, (blk_cell BKAb.out 2).trans rfl, (blk_cell BKAb.out 3).trans rfl, (blk_cell BKAb.out 4).trans rfl, (blk_cell BKAb.out 5).trans rfl⟩ (fun hHeld => ?_)
       clear hK K
       refine nq_ 72 ?_
       refine pq_ 9 73 HT_ ?_
       refine done_ (done_of HT_.out (by kernel_rfl)) ?_
       try go_wp2
       go_ret
       exact ⟨by first | rfl | (simp [errW_none, errW_some] <;> rfl) | (simp [*, errW_none, errW_some] <;> rfl), by repeat (first | (with_reducible first | exact HB.out | apply below_alloc | apply pw_below_drewN | apply below_drew1 | refine below_set ?_ GEAb.out | refine below_set ?_ GEAa.out) | exact HB.out)⟩
end Go.Proofs.Ytcpohmfkmgcjkaa.P
