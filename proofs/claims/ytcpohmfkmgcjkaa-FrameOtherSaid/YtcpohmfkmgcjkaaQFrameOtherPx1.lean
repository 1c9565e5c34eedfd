/- Printed by a program of this session (myprint) out of the translation: the functions as plain Lean functions, and that the calls compute them. What counts is Lean's check. -/
import Derived.Test.YtcpohmfkmgcjkaaQFrameOtherBuilder
import Derived.Test.YtcpohmfkmgcjkaaQFrameOtherBits
import Derived.Test.YtcpohmfkmgcjkaaQFrameOtherPx2
import Derived.Test.YtcpohmfkmgcjkaaQFrameOtherPx3
namespace Go.Proofs.Ytcpohmfkmgcjkaa.P
open Go.RowKit Go.Proofs.YtcpohmfkmgcjkaaW.PrintWords Go.Proofs.YtcpohmfkmgcjkaaW.PrintLast Go.Proofs.YtcpohmfkmgcjkaaW.PrintMore
attribute [local go_sem] max2_int min2_int max_two min_two max_three min_three max_four min_four
set_option linter.unusedVariables false
set_option linter.unusedSimpArgs false
attribute [-simp] ByteArray.size_extract ByteArray.size_append ByteArray.extract_append_extract
attribute [-go_sem] ByteArray.size_append'
attribute [local go_sem high] eqA26
def frame_empty.f (a0_0 : Int) (a0_1 : Int) : Option (Bool) := some (a0_0 == 0 && (a0_1 == 0))
set_option maxHeartbeats 8000000 in
set_option maxRecDepth 100000 in
theorem frame_empty.calls (a0_0 : Int) (a0_1 : Int) (r : Bool) (w : World) (h : frame_empty.f a0_0 a0_1 = some r) :
  Calls Try.prog 47 #[.agg #[.int .i64 a0_0, .int .i64 a0_1]] w fun e w' => e = .returned (.bool r) ∧ Below w.heap.size w w' := by
 have hu26 := Try.underlying26
 have HB := Aside0.mk (Below.refl w.heap.size w)
 have H : (some (a0_0 == 0 && (a0_1 == 0))) = some r := h
 clear h
 obtain rfl := Option.some.inj H
 go_enter Try.func47, Try.ntmps47
 go_wp2_with (first | ((with_reducible refine gate_dst (N := 1) rfl ?_); refine be_ 1 #[.int .i64 a0_0, .int .i64 a0_1] 26 ?_; intro gbAe hg w2 hbox hb; have n0_ := bs_ HB hb; have n1_ := Aside0.mk (hbox); have n2_ := Aside0.mk ((by rw [hg]; exact (below_size (pH_ HB.out)) : w.heap.size ≤ gbAe)); have n3_ := Aside0.mk ((by rw [hg]; exact (below_size (pH_ HB.out)) : w.heap.size ≤ gbAe)); clear HB; have HB := n0_; have BKAe := n1_; have GWAe := n2_; have GEAe := n3_; clear n0_ n1_ n2_ n3_; clear hb hbox hg; have hcz3_0 : w2.cell? ⟨gbAe, 0, none⟩ = some (.int .i64 a0_0) := bc_ BKAe 0; have hcz3_1 : w2.cell? ⟨gbAe, 1, none⟩ = some (.int .i64 a0_1) := bc_ BKAe 1; have hfz3_0 := blk_frozen BKAe.out 0; have hfz3_1 := blk_frozen BKAe.out 1))
 go_ret
 exact ⟨by first | rfl | (simp [errW_none, errW_some] <;> rfl) | (simp [*, errW_none, errW_some] <;> rfl), pH_ HB.out⟩
def frame_value.f (a0_0 : Int) (a0_1 : Int) : Option (Bool) := if a0_0 = 1 then (if a0_1 = 0 then (some true) else (if a0_0 = 2 then (if a0_1 ≥ 0 then (some (decide (a0_1 ≤ 255))) else (some false)) else (some false))) else (if a0_0 = 2 then (if a0_1 ≥ 0 then (some (decide (a0_1 ≤ 255))) else (some false)) else (some false))
set_option maxHeartbeats 8000000 in
set_option maxRecDepth 100000 in
theorem frame_value.calls (a0_0 : Int) (a0_1 : Int) (r : Bool) (w : World) (h : frame_value.f a0_0 a0_1 = some r) :
  Calls Try.prog 48 #[.agg #[.int .i64 a0_0, .int .i64 a0_1]] w fun e w' => e = .returned (.bool r) ∧ Below w.heap.size w w' := by
 have hu26 := Try.underlying26
 have HB := Aside0.mk (Below.refl w.heap.size w)
 have H : (if a0_0 = 1 then (if a0_1 = 0 then (some true) else (if a0_0 = 2 then (if a0_1 ≥ 0 then (some (decide (a0_1 ≤ 255))) else (some false)) else (some false))) else (if a0_0 = 2 then (if a0_1 ≥ 0 then (some (decide (a0_1 ≤ 255))) else (some false)) else (some false))) = some r := h
 clear h
 by_cases c2 : a0_0 = 1
 ·
  rw [if_pos c2] at H
  have c2b0 : (a0_0 == 1) = true := beq_iff_eq.mpr c2
  have c2b1 : (a0_0 != 1) = false := bne_eq_false_iff_eq.mpr c2
  clear c2
  by_cases c3 : a0_1 = 0
  ·
   rw [if_pos c3] at H
   have c3b0 : (a0_1 == 0) = true := beq_iff_eq.mpr c3
   have c3b1 : (a0_1 != 0) = false := bne_eq_false_iff_eq.mpr c3
   clear c3
   obtain rfl := Option.some.inj H
   go_enter Try.func48, Try.ntmps48
   go_wp2_with (first | ((with_reducible refine gate_dst (N := 1) rfl ?_); refine be_ 1 #[.int .i64 a0_0, .int .i64 a0_1] 26 ?_; intro gbAa hg w4 hbox hb; have n0_ := bs_ HB hb; have n1_ := Aside0.mk (hbox); have n2_ := Aside0.mk ((by rw [hg]; exact (below_size (pH_ HB.out)) : w.heap.size ≤ gbAa)); have n3_ := Aside0.mk ((by rw [hg]; exact (below_size (pH_ HB.out)) : w.heap.size ≤ gbAa)); clear HB; have HB := n0_; have BKAa := n1_; have GWAa := n2_; have GEAa := n3_; clear n0_ n1_ n2_ n3_; clear hb hbox hg; have hcz5_0 : w4.cell? ⟨gbAa, 0, none⟩ = some (.int .i64 a0_0) := bc_ BKAa 0; have hcz5_1 : w4.cell? ⟨gbAa, 1, none⟩ = some (.int .i64 a0_1) := bc_ BKAa 1; have hfz5_0 := blk_frozen BKAa.out 0; have hfz5_1 := blk_frozen BKAa.out 1))
   go_ret
   exact ⟨by first | rfl | (simp [errW_none, errW_some] <;> rfl) | (simp [*, errW_none, errW_some] <;> rfl), pH_ HB.out⟩
  ·
   rw [if_neg c3] at H
   have c3b0 : (a0_1 == 0) = false := beq_eq_false_iff_ne.mpr c3
   have c3b1 : (a0_1 != 0) = true := bne_iff_ne.mpr c3
   by_cases c6 : a0_0 = 2
   ·
    rw [if_pos c6] at H
    have c6b0 : (a0_0 == 2) = true := beq_iff_eq.mpr c6
    have c6b1 : (a0_0 != 2) = false := bne_eq_false_iff_eq.mpr c6
    clear c6
    by_cases c7 : a0_1 ≥ 0
    ·
     rw [if_pos c7] at H
     have c7b0 : decide (0 ≤ a0_1) = true := decide_eq_true c7
     clear c7
     obtain rfl := Option.some.inj H
     go_enter Try.func48, Try.ntmps48
     go_wp2_with (first | ((with_reducible refine gate_dst (N := 1) rfl ?_); refine be_ 1 #[.int .i64 a0_0, .int .i64 a0_1] 26 ?_; intro gbAa hg w8 hbox hb; have n0_ := bs_ HB hb; have n1_ := Aside0.mk (hbox); have n2_ := Aside0.mk ((by rw [hg]; exact (below_size (pH_ HB.out)) : w.heap.size ≤ gbAa)); have n3_ := Aside0.mk ((by rw [hg]; exact (below_size (pH_ HB.out)) : w.heap.size ≤ gbAa)); clear HB; have HB := n0_; have BKAa := n1_; have GWAa := n2_; have GEAa := n3_; clear n0_ n1_ n2_ n3_; clear hb hbox hg; have hcz9_0 : w8.cell? ⟨gbAa, 0, none⟩ = some (.int .i64 a0_0) := bc_ BKAa 0; have hcz9_1 : w8.cell? ⟨gbAa, 1, none⟩ = some (.int .i64 a0_1) := bc_ BKAa 1; have hfz9_0 := blk_frozen BKAa.out 0; have hfz9_1 := blk_frozen BKAa.out 1))
     go_ret
     exact ⟨by first | rfl | (simp [errW_none, errW_some] <;> rfl) | (simp [*, errW_none, errW_some] <;> rfl), pH_ HB.out⟩
    ·
     rw [if_neg c7] at H
     have c7b0 : decide (0 ≤ a0_1) = false := decide_eq_false c7
     clear c7
     obtain rfl := Option.some.inj H
     go_enter Try.func48, Try.ntmps48
     go_wp2_with (first | ((with_reducible refine gate_dst (N := 1) rfl ?_); refine be_ 1 #[.int .i64 a0_0, .int .i64 a0_1] 26 ?_; intro gbAa hg w10 hbox hb; have n0_ := bs_ HB hb; have n1_ := Aside0.mk (hbox); have n2_ := Aside0.mk ((by rw [hg]; exact (below_size (pH_ HB.out)) : w.heap.size ≤ gbAa)); have n3_ := Aside0.mk ((by rw [hg]; exact (below_size (pH_ HB.out)) : w.heap.size ≤ gbAa)); clear HB; have HB := n0_; have BKAa := n1_; have GWAa := n2_; have GEAa := n3_; clear n0_ n1_ n2_ n3_; clear hb hbox hg; have hcz11_0 : w10.cell? ⟨gbAa, 0, none⟩ = some (.int .i64 a0_0) := bc_ BKAa 0; have hcz11_1 : w10.cell? ⟨gbAa, 1, none⟩ = some (.int .i64 a0_1) := bc_ BKAa 1; have hfz11_0 := blk_frozen BKAa.out 0; have hfz11_1 := blk_frozen BKAa.out 1))
     go_ret
     exact ⟨by first | rfl | (simp [errW_none, errW_some] <;> rfl) | (simp [*, errW_none, errW_some] <;> rfl), pH_ HB.out⟩
   ·
    rw [if_neg c6] at H
    have c6b0 : (a0_0 == 2) = false := beq_eq_false_iff_ne.mpr c6
    have c6b1 : (a0_0 != 2) = true := bne_iff_ne.mpr c6
    obtain rfl := Option.some.inj H
    go_enter Try.func48, Try.ntmps48
    go_wp2_with (first | ((with_reducible refine gate_dst (N := 1) rfl ?_); refine be_ 1 #[.int .i64 a0_0, .int .i64 a0_1] 26 ?_; intro gbAa hg w12 hbox hb; have n0_ := bs_ HB hb; have n1_ := Aside0.mk (hbox); have n2_ := Aside0.mk ((by rw [hg]; exact (below_size (pH_ HB.out)) : w.heap.size ≤ gbAa)); have n3_ := Aside0.mk ((by rw [hg]; exact (below_size (pH_ HB.out)) : w.heap.size ≤ gbAa)); clear HB; have HB := n0_; have BKAa := n1_; have GWAa := n2_; have GEAa := n3_; clear n0_ n1_ n2_ n3_; clear hb hbox hg; have hcz13_0 : w12.cell? ⟨gbAa, 0, none⟩ = some (.int .i64 a0_0) := bc_ BKAa 0; have hcz13_1 : w12.cell? ⟨gbAa, 1, none⟩ = some (.int .i64 a0_1) := bc_ BKAa 1; have hfz13_0 := blk_frozen BKAa.out 0; have hfz13_1 := blk_frozen BKAa.out 1))
    go_ret
    exact ⟨by first | rfl | (simp [errW_none, errW_some] <;> rfl) | (simp [*, errW_none, errW_some] <;> rfl), pH_ HB.out⟩
 ·
  rw [if_neg c2] at H
  have c2b0 : (a0_0 == 1) = false := beq_eq_false_iff_ne.mpr c2
  have c2b1 : (a0_0 != 1) = true := bne_iff_ne.mpr c2
  by_cases c14 : a0_0 = 2
  ·
   rw [if_pos c14] at H
   have c14b0 : (a0_0 == 2) = true := beq_iff_eq.mpr c14
   have c14b1 : (a0_0 != 2) = false := bne_eq_false_iff_eq.mpr c14
   clear c14
   by_cases c15 : a0_1 ≥ 0
   ·
    rw [if_pos c15] at H
    have c15b0 : decide (0 ≤ a0_1) = true := decide_eq_true c15
    clear c15
    obtain rfl := Option.some.inj H
    go_enter Try.func48, Try.ntmps48
    go_wp2_with (first | ((with_reducible refine gate_dst (N := 1) rfl ?_); refine be_ 1 #[.int .i64 a0_0, .int .i64 a0_1] 26 ?_; intro gbAa hg w16 hbox hb; have n0_ := bs_ HB hb; have n1_ := Aside0.mk (hbox); have n2_ := Aside0.mk ((by rw [hg]; exact (below_size (pH_ HB.out)) : w.heap.size ≤ gbAa)); have n3_ := Aside0.mk ((by rw [hg]; exact (below_size (pH_ HB.out)) : w.heap.size ≤ gbAa)); clear HB; have HB := n0_; have BKAa := n1_; have GWAa := n2_; have GEAa := n3_; clear n0_ n1_ n2_ n3_; clear hb hbox hg; have hcz17_0 : w16.cell? ⟨gbAa, 0, none⟩ = some (.int .i64 a0_0) := bc_ BKAa 0; have hcz17_1 : w16.cell? ⟨gbAa, 1, none⟩ = some (.int .i64 a0_1) := bc_ BKAa 1; have hfz17_0 := blk_frozen BKAa.out 0; have hfz17_1 := blk_frozen BKAa.out 1))
    go_ret
    exact ⟨by first | rfl | (simp [errW_none, errW_some] <;> rfl) | (simp [*, errW_none, errW_some] <;> rfl), pH_ HB.out⟩
   ·
    rw [if_neg c15] at H
    have c15b0 : decide (0 ≤ a0_1) = false := decide_eq_false c15
    clear c15
    obtain rfl := Option.some.inj H
    go_enter Try.func48, Try.ntmps48
    go_wp2_with (first | ((with_reducible refine gate_dst (N := 1) rfl ?_); refine be_ 1 #[.int .i64 a0_0, .int .i64 a0_1] 26 ?_; intro gbAa hg w18 hbox hb; have n0_ := bs_ HB hb; have n1_ := Aside0.mk (hbox); have n2_ := Aside0.mk ((by rw [hg]; exact (below_size (pH_ HB.out)) : w.heap.size ≤ gbAa)); have n3_ := Aside0.mk ((by rw [hg]; exact (below_size (pH_ HB.out)) : w.heap.size ≤ gbAa)); clear HB; have HB := n0_; have BKAa := n1_; have GWAa := n2_; have GEAa := n3_; clear n0_ n1_ n2_ n3_; clear hb hbox hg; have hcz19_0 : w18.cell? ⟨gbAa, 0, none⟩ = some (.int .i64 a0_0) := bc_ BKAa 0; have hcz19_1 : w18.cell? ⟨gbAa, 1, none⟩ = some (.int .i64 a0_1) := bc_ BKAa 1; have hfz19_0 := blk_frozen BKAa.out 0; have hfz19_1 := blk_frozen BKAa.out 1))
    go_ret
    exact ⟨by first | rfl | (simp [errW_none, errW_some] <;> rfl) | (simp [*, errW_none, errW_some] <;> rfl), pH_ HB.out⟩
  ·
   rw [if_neg c14] at H
   have c14b0 : (a0_0 == 2) = false := beq_eq_false_iff_ne.mpr c14
   have c14b1 : (a0_0 != 2) = true := bne_iff_ne.mpr c14
   obtain rfl := Option.some.inj H
   go_enter Try.func48, Try.ntmps48
   go_wp2_with (first | ((with_reducible refine gate_dst (N := 1) rfl ?_); refine be_ 1 #[.int .i64 a0_0, .int .i64 a0_1] 26 ?_; intro gbAa hg w20 hbox hb; have n0_ := bs_ HB hb; have n1_ := Aside0.mk (hbox); have n2_ := Aside0.mk ((by rw [hg]; exact (below_size (pH_ HB.out)) : w.heap.size ≤ gbAa)); have n3_ := Aside0.mk ((by rw [hg]; exact (below_size (pH_ HB.out)) : w.heap.size ≤ gbAa)); clear HB; have HB := n0_; have BKAa := n1_; have GWAa := n2_; have GEAa := n3_; clear n0_ n1_ n2_ n3_; clear hb hbox hg; have hcz21_0 : w20.cell? ⟨gbAa, 0, none⟩ = some (.int .i64 a0_0) := bc_ BKAa 0; have hcz21_1 : w20.cell? ⟨gbAa, 1, none⟩ = some (.int .i64 a0_1) := bc_ BKAa 1; have hfz21_0 := blk_frozen BKAa.out 0; have hfz21_1 := blk_frozen BKAa.out 1))
   go_ret
   exact ⟨by first | rfl | (simp [errW_none, errW_some] <;> rfl) | (simp [*, errW_none, errW_some] <;> rfl), pH_ HB.out⟩
def frame_echoes.f (a0_0 : Int) (a0_1 : Int) (a0_2 : Int) (a0_3 : Int) (a0_4 : Int) (l0_5 : List Int) (a1 : Int) (a2 : Int) : Option (Int) := if a1 = 3 then (if a2 < a0_0 then ((conf_Slots.f a0_0 a0_1 a0_2 a0_3 a0_4 l0_5).bind fun tAj => (some tAj)) else (some 0)) else (some 0)
set_option maxHeartbeats 8000000 in
set_option maxRecDepth 100000 in
theorem frame_echoes.calls (a0_0 : Int) (a0_1 : Int) (a0_2 : Int) (a0_3 : Int) (a0_4 : Int) (A0_5 : Option Addr) (c0_5 : Nat) (l0_5 : List Int) (a1 : Int) (a2 : Int) (r : Int) (w : World) (hr0_5 : Kd.C (Kd.int .i64) w A0_5 l0_5.length l0_5) (hc0_5 : l0_5.length ≤ c0_5) (h : frame_echoes.f a0_0 a0_1 a0_2 a0_3 a0_4 l0_5 a1 a2 = some r) :
  Calls Try.prog 50 #[.agg #[.int .i64 a0_0, .int .i64 a0_1, .int .i64 a0_2, .int .i64 a0_3, .int .i64 a0_4, .slice A0_5 l0_5.length c0_5], .int .i64 a1, .int .i64 a2] w fun e w' => e = .returned (.int .i64 r) ∧ Below w.heap.size w w' := by
 have hu24 := Try.underlying24
 have HR0_5 := Aside0.mk hr0_5
 have HC0_5 := Aside0.mk hc0_5
 clear hr0_5 hc0_5
 have HB := Aside0.mk (Below.refl w.heap.size w)
 have H : (if a1 = 3 then (if a2 < a0_0 then ((conf_Slots.f a0_0 a0_1 a0_2 a0_3 a0_4 l0_5).bind fun tAj => (some tAj)) else (some 0)) else (some 0)) = some r := h
 clear h
 by_cases c4 : a1 = 3
 ·
  rw [if_pos c4] at H
  have c4b0 : (a1 == 3) = true := beq_iff_eq.mpr c4
  have c4b1 : (a1 != 3) = false := bne_eq_false_iff_eq.mpr c4
  clear c4
  by_cases c5 : a2 < a0_0
  ·
   rw [if_pos c5] at H
   have c5b0 : decide (a2 < a0_0) = true := decide_eq_true c5
   clear c5
   replace H := Option.bind_eq_some_iff.mp H
   obtain ⟨tAj, A60, H⟩ := H
   try dsimp only at H
   have A6 := Aside0.mk A60
   clear A60
   obtain rfl := Option.some.inj H
   go_enter Try.func50, Try.ntmps50
   go_wp2_with (first | ((with_reducible refine gate_dst (N := 3) rfl ?_); refine be_ 3 #[.int .i64 a0_0, .int .i64 a0_1, .int .i64 a0_2, .int .i64 a0_3, .int .i64 a0_4, .slice A0_5 l0_5.length c0_5] 24 ?_; intro gbAc hg w7 hbox hb; have n0_ := bs_ HB hb; have n1_ := Aside0.mk (hbox); have n2_ := Aside0.mk ((by rw [hg]; exact (below_size (pH_ HB.out)) : w.heap.size ≤ gbAc)); have n3_ := Aside0.mk ((by rw [hg]; exact (below_size (pH_ HB.out)) : w.heap.size ≤ gbAc)); clear HB; have HB := n0_; have BKAc := n1_; have GWAc := n2_; have GEAc := n3_; clear n0_ n1_ n2_ n3_; clear hb hbox hg; obtain ⟨hcz8_0, hcz8_1, hcz8_2, hcz8_3, hcz8_4, hcz8_5⟩ := c6_ BKAc; obtain ⟨hfz8_0, hfz8_1, hfz8_2, hfz8_3, hfz8_4, hfz8_5⟩ := f6_ BKAc) | ((with_reducible refine gate_callee (f := 49) rfl ?_); refine gL_ 16 Try.func49 #[.agg #[.int .i64 a0_0, .int .i64 a0_1, .int .i64 a0_2, .int .i64 a0_3, .int .i64 a0_4, .slice A0_5 l0_5.length c0_5]] ?_; (with_reducible refine (conf_Slots.calls a0_0 a0_1 a0_2 a0_3 a0_4 _ _ l0_5 tAj _ ?side1 ?side2 A6.out).mono ?_); (case side1 => exact cC_ (Kd.C_below HR0_5.out HB.out)); (case side2 => exact HC0_5.out); rintro e w9 ⟨rfl, hb⟩; refine ⟨_, rfl, ?_⟩; have n0_ := Aside0.mk (blk_below (g := gbAc) (o := .cells #[.int .i64 a0_0, .int .i64 a0_1, .int .i64 a0_2, .int .i64 a0_3, .int .i64 a0_4, .slice A0_5 l0_5.length c0_5] 24 (0, 0)) (pB_ BKAc.out) hb); have n1_ := bs_ HB hb; clear BKAc; clear HB; have BKAc := n0_; have HB := n1_; clear n0_ n1_; (try clear hb); (try clear hb2); (try clear hk); (try clear hi)))
   go_ret
   exact ⟨by first | rfl | (simp [errW_none, errW_some] <;> rfl) | (simp [*, errW_none, errW_some] <;> rfl), pH_ HB.out⟩
  ·
   rw [if_neg c5] at H
   have c5b0 : decide (a2 < a0_0) = false := decide_eq_false c5
   clear c5
   obtain rfl := Option.some.inj H
   go_enter Try.func50, Try.ntmps50
   go_wp2_with (first | ((with_reducible refine gate_dst (N := 3) rfl ?_); refine be_ 3 #[.int .i64 a0_0, .int .i64 a0_1, .int .i64 a0_2, .int .i64 a0_3, .int .i64 a0_4, .slice A0_5 l0_5.length c0_5] 24 ?_; intro gbAc hg w10 hbox hb; have n0_ := bs_ HB hb; have n1_ := Aside0.mk (hbox); have n2_ := Aside0.mk ((by rw [hg]; exact (below_size (pH_ HB.out)) : w.heap.size ≤ gbAc)); have n3_ := Aside0.mk ((by rw [hg]; exact (below_size (pH_ HB.out)) : w.heap.size ≤ gbAc)); clear HB; have HB := n0_; have BKAc := n1_; have GWAc := n2_; have GEAc := n3_; clear n0_ n1_ n2_ n3_; clear hb hbox hg; obtain ⟨hcz11_0, hcz11_1, hcz11_2, hcz11_3, hcz11_4, hcz11_5⟩ := c6_ BKAc; obtain ⟨hfz11_0, hfz11_1, hfz11_2, hfz11_3, hfz11_4, hfz11_5⟩ := f6_ BKAc))
   go_ret
   exact ⟨by first | rfl | (simp [errW_none, errW_some] <;> rfl) | (simp [*, errW_none, errW_some] <;> rfl), pH_ HB.out⟩
 ·
  rw [if_neg c4] at H
  have c4b0 : (a1 == 3) = false := beq_eq_false_iff_ne.mpr c4
  have c4b1 : (a1 != 3) = true := bne_iff_ne.mpr c4
  obtain rfl := Option.some.inj H
  go_enter Try.func50, Try.ntmps50
  go_wp2_with (first | ((with_reducible refine gate_dst (N := 3) rfl ?_); refine be_ 3 #[.int .i64 a0_0, .int .i64 a0_1, .int .i64 a0_2, .int .i64 a0_3, .int .i64 a0_4, .slice A0_5 l0_5.length c0_5] 24 ?_; intro gbAc hg w12 hbox hb; have n0_ := bs_ HB hb; have n1_ := Aside0.mk (hbox); have n2_ := Aside0.mk ((by rw [hg]; exact (below_size (pH_ HB.out)) : w.heap.size ≤ gbAc)); have n3_ := Aside0.mk ((by rw [hg]; exact (below_size (pH_ HB.out)) : w.heap.size ≤ gbAc)); clear HB; have HB := n0_; have BKAc := n1_; have GWAc := n2_; have GEAc := n3_; clear n0_ n1_ n2_ n3_; clear hb hbox hg))
  go_ret
  exact ⟨by first | rfl | (simp [errW_none, errW_some] <;> rfl) | (simp [*, errW_none, errW_some] <;> rfl), pH_ HB.out⟩
def itemVal (x : S26) : Bool := (x.f0 == 1 && x.f1 == 0) || (x.f0 == 2 && (decide (0 ≤ x.f1) && decide (x.f1 ≤ 255)))
def itemEmp (x : S26) : Bool := x.f0 == 0 && x.f1 == 0
theorem frame_empty_eq (x : S26) : frame_empty.f x.f0 x.f1 = some (itemEmp x) := rfl
theorem frame_value_eq (x : S26) : frame_value.f x.f0 x.f1 = some (itemVal x) := by
 unfold frame_value.f itemVal
 by_cases h1 : x.f0 = 1
 ·
  have h2 : ¬ x.f0 = 2 := by omega
  rw [if_pos h1, if_neg h2]
  by_cases h3 : x.f1 = 0
  · rw [if_pos h3, h1, h3]; rfl
  · rw [if_neg h3, h1, beq_eq_false_iff_ne.mpr h3]; rfl
 ·
  rw [if_neg h1, beq_eq_false_iff_ne.mpr h1]
  by_cases h2 : x.f0 = 2
  ·
   rw [if_pos h2, h2]
   by_cases h3 : 0 ≤ x.f1
   · rw [if_pos h3, decide_eq_true h3]; rfl
   · rw [if_neg h3, decide_eq_false h3]; rfl
  · rw [if_neg h2, beq_eq_false_iff_ne.mpr h2]; rfl
def IdxTellsB {α : Type} (l : List α) (p : α → Bool) (w : World) (e : Ending) (w' : World) : Prop := ∃ i : Int, e = .returned (.int .i64 i) ∧ decide (0 ≤ i) = l.any p ∧ Below w.heap.size w w'
set_option maxHeartbeats 4000000 in
set_option maxRecDepth 100000 in
theorem slices_IndexFunc_item_any (p : S26 → Bool) (g : Nat) (lb : Array Value) (A0 : Option Addr) (c0 : Nat) (l0 : List S26) (w : World) (hr0 : Kd.C k26 w A0 l0.length l0)
  (eg : ∀ args w, (callFunc g args).run Try.prog w = .ok (.enter g args) w)
  (hp : ∀ (x : S26) W, Calls Try.prog g (#[.agg #[.int .i64 x.f0, .int .i64 x.f1]] ++ lb) W fun e w' => e = .returned (.bool (p x)) ∧ Below W.heap.size W w') :
  Calls Try.prog 77 #[.slice A0 l0.length c0, .func (.func g) #[] lb] w (IdxTellsB l0 p w) := by
 have HR0 := Aside0.mk hr0
 have HP := Aside0.mk hp
 have hbig : l0.length ≤ 9223372036854775807 := hr0.2.1
 clear hr0 hp
 go_enter Try.func77, Try.ntmps77
 go_wp2
 go_loopg [5, 8] l0.length (fun gg _ s8 wr => ∃ kk : Nat, kk ≤ l0.length ∧ l0.length - kk ≤ gg ∧ s8 = .int .i64 kk ∧ Aside0 (Below w.heap.size w wr) ∧ Aside0 (∀ j, j < kk → p (l0.getD j z26) = false))
 case atStart => exact ⟨0, Nat.zero_le _, by omega, rfl, ⟨Below.refl _ _⟩, ⟨fun j hj => absurd hj (Nat.not_lt_zero _)⟩⟩
 case round =>
  obtain ⟨kk, hkk, hg, rfl, HD, AA⟩ := hrel
  by_cases hlt : kk < l0.length
  ·
   have hltz : (kk : Int) < (l0.length : Int) := by omega
   obtain ⟨ad, e1, hx0, hx1⟩ := at_T26 HR0.out kk (by omega) hltz
   cases e1
   have HB := HD.out
   replace hx0 := (HB.cell (World.block_lt_of_cell? w _ hx0)).trans hx0
   replace hx1 := (HB.cell (World.block_lt_of_cell? w _ hx1)).trans hx1
   clear HB
   rw [Int.toNat_natCast] at hx0 hx1
   have hcall := HP.out (rd_T26 l0 kk) wr
   have HQ1 : Aside0 (rd_T26 l0 (kk : Int) = l0.getD kk z26) := ⟨by unfold rd_T26; rw [Int.toNat_natCast]⟩
   generalize hx : rd_T26 l0 (kk : Int) = x at hcall HQ1 hx0 hx1
   clear hx
   cases hq : p x with
   | true =>
    rw [hq] at hcall
    have HQ2 := Aside0.mk hq
    clear hq
    go_wp2_with fail
    refine hcall.mono ?_
    rintro e w' ⟨rfl, hb⟩
    have HB2 := Aside0.mk (below_then HD.out HD.out.size hb)
    clear hcall hb
    go_wp2
    go_ret
    exact ⟨_, rfl, by rw [any_true_of l0 p z26 kk hlt (by rw [← HQ1.out]; exact HQ2.out)]; simp, HB2.out⟩
   | false =>
    rw [hq] at hcall
    have HQ2 := Aside0.mk hq
    clear hq
    go_wp2_with fail
    refine hcall.mono ?_
    rintro e w' ⟨rfl, hb⟩
    have HB2 := Aside0.mk (below_then HD.out HD.out.size hb)
    clear hcall hb
    go_wp2
    go_roundg (l0.length - (kk + 1))
    case measure => omega
    case rel =>
     refine ⟨kk + 1, by omega, by omega, by go_num, HB2, ⟨fun j hj => ?_⟩⟩
     by_cases e : j = kk
     ·
      subst e
      rw [← HQ1.out]; exact HQ2.out
     · exact AA.out j (by omega)
  ·
   have hltz : ¬ (kk : Int) < (l0.length : Int) := by omega
   have hk : kk = l0.length := by omega
   have AC := Aside0.mk (any_false_of l0 p z26 (fun j hj => AA.out j (by omega)))
   clear hk
   go_wp2
   go_ret
   exact ⟨_, rfl, by rw [AC.out]; simp, HD.out⟩
set_option maxHeartbeats 4000000 in
set_option maxRecDepth 100000 in
theorem slices_ContainsFunc_item_any (p : S26 → Bool) (g : Nat) (lb : Array Value) (A0 : Option Addr) (c0 : Nat) (l0 : List S26) (w : World) (hr0 : Kd.C k26 w A0 l0.length l0)
  (eg : ∀ args w, (callFunc g args).run Try.prog w = .ok (.enter g args) w)
  (hp : ∀ (x : S26) W, Calls Try.prog g (#[.agg #[.int .i64 x.f0, .int .i64 x.f1]] ++ lb) W fun e w' => e = .returned (.bool (p x)) ∧ Below W.heap.size W w') :
  Calls Try.prog 51 #[.slice A0 l0.length c0, .func (.func g) #[] lb] w fun e w' => e = .returned (.bool (l0.any p)) ∧ Below w.heap.size w w' := by
 have HC := Aside0.mk (slices_IndexFunc_item_any p g lb A0 c0 l0 w hr0 eg hp)
 clear hr0 hp
 go_enter Try.func51, Try.ntmps51
 go_wp2_with fail
 refine HC.out.mono ?_
 rintro e w' ⟨i, rfl, hi, hb⟩
 have HI := Aside0.mk hi
 have HB := Aside0.mk hb
 clear hi hb
 go_wp2
 go_ret
 exact ⟨by rw [← HI.out]; rfl, HB.out⟩
set_option maxHeartbeats 4000000 in
set_option maxRecDepth 100000 in
theorem frame_Check_closure (x : S26) (W : World) :
  Calls Try.prog 52 #[.agg #[.int .i64 x.f0, .int .i64 x.f1]] W fun e w' => e = .returned (.bool (!itemEmp x && !itemVal x)) ∧ Below W.heap.size W w' := by
 have hu26 := Try.underlying26
 have HE := Aside0.mk (frame_empty_eq x)
 have HV := Aside0.mk (frame_value_eq x)
 generalize itemVal x = bv at HV
 cases he : itemEmp x with
 | true =>
  rw [he] at HE
  clear he
  go_enter Try.func52, Try.ntmps52
  go_wp2_with fail
  refine (frame_empty.calls _ _ _ _ HE.out).mono ?_
  rintro e w1 ⟨rfl, hb⟩
  have HB := Aside0.mk (below_then (below_alloc (Below.refl W.heap.size W) _) (by simp) hb)
  clear hb
  go_wp2
  go_ret
  exact ⟨rfl, HB.out⟩
 | false =>
  rw [he] at HE
  clear he
  go_enter Try.func52, Try.ntmps52
  go_wp2_with fail
  refine (frame_empty.calls _ _ _ _ HE.out).mono ?_
  rintro e w1 ⟨rfl, hb⟩
  obtain ⟨hc, hf⟩ := bcell hb
  have HB := Aside0.mk (below_then (below_alloc (Below.refl W.heap.size W) _) (by simp) hb)
  clear hb
  go_wp2_with fail
  refine (frame_value.calls _ _ _ _ HV.out).mono ?_
  rintro e w2 ⟨rfl, hb⟩
  have HB2 := Aside0.mk (below_then HB.out HB.out.size hb)
  clear hb
  go_wp2
  go_ret
  exact ⟨rfl, HB2.out⟩
structure FrameIs (w : World) (a0_0 a0_1 a0_2 a0_3 a0_4 : Int) (u : Value) (a1_0 a1_1 a1_2 a1_3 a1_4 : Int) (v : Value) (W : World) : Prop where
 b0 : W.heap[w.heap.size]? = some (.cells #[.int .i64 a0_0, .int .i64 a0_1, .int .i64 a0_2, .int .i64 a0_3, .int .i64 a0_4, u] 24 (0, 0))
 b1 : W.heap[w.heap.size + 1]? = some (.cells #[.int .i64 a1_0, .int .i64 a1_1, .int .i64 a1_2, .int .i64 a1_3, .int .i64 a1_4, v] 29 (0, 0))
 hb : Below w.heap.size w W
 room : w.heap.size + 2 ≤ W.heap.size
section
variable {w : World} {a0_0 a0_1 a0_2 a0_3 a0_4 : Int} {u : Value} {a1_0 a1_1 a1_2 a1_3 a1_4 : Int} {v : Value}
theorem FrameIs.below {W W1 : World} (h : FrameIs w a0_0 a0_1 a0_2 a0_3 a0_4 u a1_0 a1_1 a1_2 a1_3 a1_4 v W) (hb : Below W.heap.size W W1) : FrameIs w a0_0 a0_1 a0_2 a0_3 a0_4 u a1_0 a1_1 a1_2 a1_3 a1_4 v W1 :=
 ⟨(hb.block _ (by have := h.room; omega)).trans h.b0, (hb.block _ (by have := h.room; omega)).trans h.b1, below_then h.hb h.hb.size hb, by have := h.room; have := hb.size; omega⟩
theorem FrameIs.cells {W : World} (h : FrameIs w a0_0 a0_1 a0_2 a0_3 a0_4 u a1_0 a1_1 a1_2 a1_3 a1_4 v W) :
  W.cell? ⟨w.heap.size, 0, none⟩ = some (.int .i64 a0_0) ∧ W.cell? ⟨w.heap.size, 1, none⟩ = some (.int .i64 a0_1) ∧ W.cell? ⟨w.heap.size, 2, none⟩ = some (.int .i64 a0_2) ∧ W.cell? ⟨w.heap.size, 3, none⟩ = some (.int .i64 a0_3) ∧ W.cell? ⟨w.heap.size, 4, none⟩ = some (.int .i64 a0_4) ∧ W.cell? ⟨w.heap.size, 5, none⟩ = some u ∧
  W.cell? ⟨w.heap.size + 1, 0, none⟩ = some (.int .i64 a1_0) ∧ W.cell? ⟨w.heap.size + 1, 1, none⟩ = some (.int .i64 a1_1) ∧ W.cell? ⟨w.heap.size + 1, 2, none⟩ = some (.int .i64 a1_2) ∧ W.cell? ⟨w.heap.size + 1, 3, none⟩ = some (.int .i64 a1_3) ∧ W.cell? ⟨w.heap.size + 1, 4, none⟩ = some (.int .i64 a1_4) ∧ W.cell? ⟨w.heap.size + 1, 5, none⟩ = some v :=
 ⟨(blk_cell h.b0 0).trans rfl, (blk_cell h.b0 1).trans rfl, (blk_cell h.b0 2).trans rfl, (blk_cell h.b0 3).trans rfl, (blk_cell h.b0 4).trans rfl, (blk_cell h.b0 5).trans rfl, (blk_cell h.b1 0).trans rfl, (blk_cell h.b1 1).trans rfl, (blk_cell h.b1 2).trans rfl, (blk_cell h.b1 3).trans rfl, (blk_cell h.b1 4).trans rfl, (blk_cell h.b1 5).trans rfl⟩
theorem FrameIs.two (w : World) (a0_0 a0_1 a0_2 a0_3 a0_4 : Int) (u : Value) (a1_0 a1_1 a1_2 a1_3 a1_4 : Int) (v : Value) : FrameIs w a0_0 a0_1 a0_2 a0_3 a0_4 u a1_0 a1_1 a1_2 a1_3 a1_4 v ((w.alloc (.cells #[.int .i64 a0_0, .int .i64 a0_1, .int .i64 a0_2, .int .i64 a0_3, .int .i64 a0_4, u] 24)).alloc (.cells #[.int .i64 a1_0, .int .i64 a1_1, .int .i64 a1_2, .int .i64 a1_3, .int .i64 a1_4, v] 29)) := by
 refine ⟨?_, ?_, below_alloc (below_alloc (Below.refl _ _) _) _, by simp⟩
 ·
  rw [Lib.alloc_old _ _ _ (by simp)]
  exact heap_alloc_new w _
 ·
  have h := heap_alloc_new (w.alloc (.cells #[.int .i64 a0_0, .int .i64 a0_1, .int .i64 a0_2, .int .i64 a0_3, .int .i64 a0_4, u] 24)) (.cells #[.int .i64 a1_0, .int .i64 a1_1, .int .i64 a1_2, .int .i64 a1_3, .int .i64 a1_4, v] 29)
  simpa using h
end
def frame_echoesV (n : Int) (pairs : Nat) (kind slot : Int) : Int := if kind = 3 ∧ slot < n then wrap64 (n + (pairs : Int)) else 0
theorem frame_echoes_eq (a0_0 a0_1 a0_2 a0_3 a0_4 : Int) (l : List Int) (kind slot : Int) : frame_echoes.f a0_0 a0_1 a0_2 a0_3 a0_4 l kind slot = some (frame_echoesV a0_0 l.length kind slot) := by
 unfold frame_echoes.f frame_echoesV conf_Slots.f
 by_cases h1 : kind = 3
 ·
  by_cases h2 : slot < a0_0
  · rw [if_pos h1, if_pos h2, if_pos ⟨h1, h2⟩]; rfl
  · rw [if_pos h1, if_neg h2, if_neg (fun h => h2 h.2)]
 · rw [if_neg h1, if_neg (fun h => h1 h.1)]
def frame_Check.f (a0_0 : Int) (a0_1 : Int) (a0_2 : Int) (a0_3 : Int) (a0_4 : Int) (l0_5 : List Int) (a1_0 : Int) (a1_1 : Int) (a1_2 : Int) (a1_3 : Int) (a1_4 : Int) (l1_5 : List S26) : Option Int :=
 if a1_2 < 0 ∨ wrap64 (a0_0 + (l0_5.length : Int)) ≤ a1_2 ∨ a1_1 < 0 ∨ 65535 < a1_1 then some 1 else
 if a1_0 < 1 ∨ 3 < a1_0 ∨ (a0_0 ≤ a1_2 ∧ a1_0 ≠ 3) then some 6 else
 if (if a1_0 = 3 then itemVal ⟨a1_3, a1_4⟩ else itemEmp ⟨a1_3, a1_4⟩) = false then some 1 else
 if (l1_5.length : Int) ≠ frame_echoesV a0_0 l0_5.length a1_0 a1_2 then some 2 else
 if l1_5.any (fun x => !itemEmp x && !itemVal x) = true then some 1 else some 0
def frame_Check.T4 : Bool × List (List Nat × List Nat) := (true, [([], []), ([0], [0]), ([1], [1]), ([2], [2]), ([3], [3]), ([4, 3], [3, 4]), ([3], [3]), ([6, 3, 3], [3, 6]), ([5, 7, 3], [3, 5, 7]), ([3, 8], [3, 8]), ([9, 7], [9]), ([10], [10]), ([11, 10], [10, 11]), ([12, 10], [10, 12]), ([10, 13], [10, 13]), ([14, 10], [14]), ([15], [15]), ([16, 15], [15, 16]), ([17, 15], [15, 17]), ([15, 18], [15, 18]), ([19, 15], [19])])
def frame_Check.B4 : List Nat := [0, 1, 3, 7, 15, 31, 15, 79, 255, 511, 1023, 2047, 4095, 8191, 16383, 32767, 65535, 131071, 262143, 524287, 1048575]
theorem frame_Check.tab4 : rtab .any (opsOf Try.f22 4) = frame_Check.T4 := by kernel_rfl
theorem frame_Check.bits4 : waitsOk frame_Check.T4.2 frame_Check.B4 = true := by kernel_rfl
def frame_Check.T10 : Bool × List (List Nat × List Nat) := (true, [([], []), ([0], [0]), ([1], [1]), ([], []), ([], []), ([4], [4]), ([], []), ([6], [6]), ([3, 5, 7], [3, 5, 7]), ([2, 8], [2, 8]), ([9, 8], [9])])
def frame_Check.B10 : List Nat := [0, 1, 3, 0, 0, 16, 0, 64, 248, 511, 1023]
theorem frame_Check.tab10 : rtab .any (opsOf Try.f22 10) = frame_Check.T10 := by kernel_rfl
theorem frame_Check.bits10 : waitsOk frame_Check.T10.2 frame_Check.B10 = true := by kernel_rfl
set_option maxHeartbeats 16000000 in
set_option maxRecDepth 100000 in
theorem frame_Check.calls (a0_0 : Int) (a0_1 : Int) (a0_2 : Int) (a0_3 : Int) (a0_4 : Int) (A0_5 : Option Addr) (c0_5 : Nat) (l0_5 : List Int) (a1_0 : Int) (a1_1 : Int) (a1_2 : Int) (a1_3 : Int) (a1_4 : Int) (A1_5 : Option Addr) (c1_5 : Nat) (l1_5 : List (S26)) (r : Int) (w : World) (hr0_5 : Kd.C (Kd.int .i64) w A0_5 l0_5.length l0_5) (hc0_5 : l0_5.length ≤ c0_5) (hr1_5 : Kd.C k26 w A1_5 l1_5.length l1_5) (hc1_5 : l1_5.length ≤ c1_5) (h : frame_Check.f a0_0 a0_1 a0_2 a0_3 a0_4 l0_5 a1_0 a1_1 a1_2 a1_3 a1_4 l1_5 = some r) :
  Calls Try.prog 22 #[.agg #[.int .i64 a0_0, .int .i64 a0_1, .int .i64 a0_2, .int .i64 a0_3, .int .i64 a0_4, .slice A0_5 l0_5.length c0_5], .agg #[.int .i64 a1_0, .int .i64 a1_1, .int .i64 a1_2, .int .i64 a1_3, .int .i64 a1_4, .slice A1_5 l1_5.length c1_5]] w fun e w' => e = .returned (.int .i64 r) ∧ Below w.heap.size w w' := by
 unfold frame_Check.f at h
 have HF := Aside0.mk h
 have HR0 := Aside0.mk hr0_5
 have HC0 := Aside0.mk hc0_5
 have HR1 := Aside0.mk hr1_5
 have HC1 := Aside0.mk hc1_5
 clear h hr0_5 hr1_5 hc1_5 hc0_5
 have hu24 := Try.underlying24
 have hu29 := Try.underlying29
 have hu26 := Try.underlying26
 have ASL0 : Aside0 (conf_Slots.f a0_0 a0_1 a0_2 a0_3 a0_4 l0_5 = some (wrap64 (a0_0 + (l0_5.length : Int)))) := ⟨rfl⟩
 have AEC0 := Aside0.mk (frame_echoes_eq a0_0 a0_1 a0_2 a0_3 a0_4 l0_5 a1_0 a1_2)
 obtain ⟨sl, hsl⟩ : ∃ s, s = wrap64 (a0_0 + (l0_5.length : Int)) := ⟨_, rfl⟩
 obtain ⟨ec, hec⟩ : ∃ s, s = frame_echoesV a0_0 l0_5.length a1_0 a1_2 := ⟨_, rfl⟩
 have ASL : Aside0 (conf_Slots.f a0_0 a0_1 a0_2 a0_3 a0_4 l0_5 = some sl) := ⟨by rw [hsl]; exact ASL0.out⟩
 have AEC : Aside0 (frame_echoes.f a0_0 a0_1 a0_2 a0_3 a0_4 l0_5 a1_0 a1_2 = some ec) := ⟨by rw [hec]; exact AEC0.out⟩
 rw [← hsl, ← hec] at HF
 clear hsl hec ASL0 AEC0
 have HX := Aside0.mk (FrameIs.two w a0_0 a0_1 a0_2 a0_3 a0_4 (.slice A0_5 l0_5.length c0_5) a1_0 a1_1 a1_2 a1_3 a1_4 (.slice A1_5 l1_5.length c1_5))
 go_enter Try.func22, Try.ntmps22
 go_upto_if 8 with fail
 go_cut [5] (fun v5 wc => v5 = (if a1_0 = 3 then Value.func (.func 48) #[] #[] else Value.func (.func 47) #[] #[]) ∧ Aside0 (FrameIs w a0_0 a0_1 a0_2 a0_3 a0_4 (.slice A0_5 l0_5.length c0_5) a1_0 a1_1 a1_2 a1_3 a1_4 (.slice A1_5 l1_5.length c1_5) wc))
 case first =>
  by_cases h3 : a1_0 = 3
  ·
   have b3 : (a1_0 == 3) = true := beq_iff_eq.mpr h3
   have H3 := Aside0.mk h3
   clear h3
   go_wp2
   go_meet
   case rel => exact ⟨by rw [if_pos H3.out], HX⟩
  ·
   have b3 : (a1_0 == 3) = false := beq_eq_false_iff_ne.mpr h3
   have H3 := Aside0.mk h3
   clear h3
   go_wp2
   go_meet
   case rel => exact ⟨by rw [if_neg H3.out], HX⟩
 case rest =>
  clear HX
  obtain ⟨hfv, HX⟩ := hcut
  have HFV := Aside0.mk hfv
  clear hfv
  go_wp2
  by_cases s0 : a1_2 < 0
  ·
   have HR : Aside0 (r = 1) := ⟨by have h := HF.out; rw [if_pos (Or.inl s0)] at h; exact (Option.some.inj h).symm⟩
   have bs0 : decide (a1_2 < 0) = true := decide_eq_true s0
   clear s0
   have HX1 := Aside0.mk (HX.out.below (below_drew1 (Below.refl _ _)))
   clear HX
   have HX := HX1
   clear HX1
   refine start_ (n := 21) (S := fun w' => w'.cell? ⟨w.heap.size, 0, none⟩ = some (.int .i64 a0_0) ∧ w'.cell? ⟨w.heap.size, 1, none⟩ = some (.int .i64 a0_1) ∧ w'.cell? ⟨w.heap.size, 2, none⟩ = some (.int .i64 a0_2) ∧ w'.cell? ⟨w.heap.size, 3, none⟩ = some (.int .i64 a0_3) ∧ w'.cell? ⟨w.heap.size, 4, none⟩ = some (.int .i64 a0_4) ∧ w'.cell? ⟨w.heap.size, 5, none⟩ = some (.slice A0_5 l0_5.length c0_5) ∧ w'.cell? ⟨w.heap.size + 1, 0, none⟩ = some (.int .i64 a1_0) ∧ w'.cell? ⟨w.heap.size + 1, 1, none⟩ = some (.int .i64 a1_1) ∧ w'.cell? ⟨w.heap.size + 1, 2, none⟩ = some (.int .i64 a1_2) ∧ w'.cell? ⟨w.heap.size + 1, 3, none⟩ = some (.int .i64 a1_3) ∧ w'.cell? ⟨w.heap.size + 1, 4, none⟩ = some (.int .i64 a1_4) ∧ w'.cell? ⟨w.heap.size + 1, 5, none⟩ = some (.slice A1_5 l1_5.length c1_5)) (ds := []) #[false, false, false, false, false, false, false, false, false, false, false, false, false, false, false, false, false, false, false, false, false] (by kernel_rfl) rfl rfl HX.out.cells (fun hHeld => ?_); refine with_tabW frame_Check.tab4 frame_Check.bits4 (fun HT_ HW_ => ?_)
   refine pq_ 0 10 HT_ ?_
   refine tq_ 1 11 HT_ HW_ hHeld ?_
   refine pq_ 2 12 HT_ ?_
   refine pq_ 3 13 HT_ ?_
   refine pu_ 4 14 HT_ ?_
   refine pu_ 5 15 HT_ ?_
   refine pu_ 6 16 HT_ ?_
   refine pu_ 7 17 HT_ ?_
   refine pu_ 8 18 HT_ ?_
   refine pq_ 9 19 HT_ ?_
   refine pq_ 10 20 HT_ ?_
   refine pu_ 11 21 HT_ ?_
   refine pu_ 12 22 HT_ ?_
   refine pu_ 13 23 HT_ ?_
   refine pq_ 14 24 HT_ ?_
   refine pq_ 15 25 HT_ ?_
   refine pu_ 16 26 HT_ ?_
   refine pu_ 17 27 HT_ ?_
   refine pu_ 18 28 HT_ ?_
   refine pq_ 19 29 HT_ ?_
   refine pq_ 20 9 HT_ ?_
   refine done_ (done_of HT_.out (by kernel_rfl)) ?_
   go_wp2
   go_ret
   exact ⟨by rw [HR.out]; rfl, HX.out.hb⟩
  have bs0 : decide (a1_2 < 0) = false := decide_eq_false s0
  by_cases s1 : sl ≤ a1_2
  ·
   have HR : Aside0 (r = 1) := ⟨by have h := HF.out; rw [if_pos (Or.inr (Or.inl s1))] at h; exact (Option.some.inj h).symm⟩
   have bs1 : decide (sl ≤ a1_2) = true := decide_eq_true s1
   clear s1
   have HX1 := Aside0.mk (HX.out.below (below_drew1 (Below.refl _ _)))
   clear HX
   have HX := HX1
   clear HX1
   refine start_ (n := 21) (S := fun w' => w'.cell? ⟨w.heap.size, 0, none⟩ = some (.int .i64 a0_0) ∧ w'.cell? ⟨w.heap.size, 1, none⟩ = some (.int .i64 a0_1) ∧ w'.cell? ⟨w.heap.size, 2, none⟩ = some (.int .i64 a0_2) ∧ w'.cell? ⟨w.heap.size, 3, none⟩ = some (.int .i64 a0_3) ∧ w'.cell? ⟨w.heap.size, 4, none⟩ = some (.int .i64 a0_4) ∧ w'.cell? ⟨w.heap.size, 5, none⟩ = some (.slice A0_5 l0_5.length c0_5) ∧ w'.cell? ⟨w.heap.size + 1, 0, none⟩ = some (.int .i64 a1_0) ∧ w'.cell? ⟨w.heap.size + 1, 1, none⟩ = some (.int .i64 a1_1) ∧ w'.cell? ⟨w.heap.size + 1, 2, none⟩ = some (.int .i64 a1_2) ∧ w'.cell? ⟨w.heap.size + 1, 3, none⟩ = some (.int .i64 a1_3) ∧ w'.cell? ⟨w.heap.size + 1, 4, none⟩ = some (.int .i64 a1_4) ∧ w'.cell? ⟨w.heap.size + 1, 5, none⟩ = some (.slice A1_5 l1_5.length c1_5)) (ds := []) #[false, false, false, false, false, false, false, false, false, false, false, false, false, false, false, false, false, false, false, false, false] (by kernel_rfl) rfl rfl HX.out.cells (fun hHeld => ?_); refine with_tabW frame_Check.tab4 frame_Check.bits4 (fun HT_ HW_ => ?_)
   refine pq_ 0 10 HT_ ?_
   refine tq_ 1 11 HT_ HW_ hHeld ?_
   refine pq_ 2 12 HT_ ?_
   refine pq_ 3 13 HT_ ?_
   refine pq_ 4 14 HT_ ?_
   refine tq_ 5 15 HT_ HW_ hHeld ?_
   refine tq_ 6 16 HT_ HW_ hHeld ?_
   refine oq_ 7 17 HT_ (fun K hK => ?_)
   clear hHeld
   refine goes_ Try.func49 (by kernel_rfl) rfl #[.agg #[.int .i64 a0_0, .int .i64 a0_1, .int .i64 a0_2, .int .i64 a0_3, .int .i64 a0_4, .slice A0_5 l0_5.length c0_5]] (by rfl) rfl rfl (by (try simp only [List.map_toArray, List.map_cons, List.map_nil]); first | done | rfl) ?_
   with_reducible refine (conf_Slots.calls a0_0 a0_1 a0_2 a0_3 a0_4 A0_5 c0_5 l0_5 sl _ (Kd.C_below HR0.out HX.out.hb) HC0.out ASL.out).mono ?_
   rintro e w5 ⟨rfl, hb⟩
   refine ⟨_, rfl, ?_⟩
   replace HX := Aside0.mk (HX.out.below hb)
   clear hb
   refine hK.out _ _ HX.out.cells (fun hHeld => ?_)
   clear hK K
   refine nq_ 17 ?_
   refine pq_ 8 18 HT_ ?_
   refine pq_ 9 19 HT_ ?_
   refine pq_ 10 20 HT_ ?_
   refine pu_ 11 21 HT_ ?_
   refine pu_ 12 22 HT_ ?_
   refine pu_ 13 23 HT_ ?_
   refine pq_ 14 24 HT_ ?_
   refine pq_ 15 25 HT_ ?_
   refine pu_ 16 26 HT_ ?_
   refine pu_ 17 27 HT_ ?_
   refine pu_ 18 28 HT_ ?_
   refine pq_ 19 29 HT_ ?_
   refine pq_ 20 9 HT_ ?_
   refine done_ (done_of HT_.out (by kernel_rfl)) ?_
   go_wp2
   go_ret
   exact ⟨by rw [HR.out]; rfl, HX.out.hb⟩
  have bs1 : decide (sl ≤ a1_2) = false := decide_eq_false s1
  by_cases s2 : a1_1 < 0
  ·
   have HR : Aside0 (r = 1) := ⟨by have h := HF.out; rw [if_pos (Or.inr (Or.inr (Or.inl s2)))] at h; exact (Option.some.inj h).symm⟩
   have bs2 : decide (a1_1 < 0) = true := decide_eq_true s2
   clear s2
   have HX1 := Aside0.mk (HX.out.below (below_drew1 (Below.refl _ _)))
   clear HX
   have HX := HX1
   clear HX1
   refine start_ (n := 21) (S := fun w' => w'.cell? ⟨w.heap.size, 0, none⟩ = some (.int .i64 a0_0) ∧ w'.cell? ⟨w.heap.size, 1, none⟩ = some (.int .i64 a0_1) ∧ w'.cell? ⟨w.heap.size, 2, none⟩ = some (.int .i64 a0_2) ∧ w'.cell? ⟨w.heap.size, 3, none⟩ = some (.int .i64 a0_3) ∧ w'.cell? ⟨w.heap.size, 4, none⟩ = some (.int .i64 a0_4) ∧ w'.cell? ⟨w.heap.size, 5, none⟩ = some (.slice A0_5 l0_5.length c0_5) ∧ w'.cell? ⟨w.heap.size + 1, 0, none⟩ = some (.int .i64 a1_0) ∧ w'.cell? ⟨w.heap.size + 1, 1, none⟩ = some (.int .i64 a1_1) ∧ w'.cell? ⟨w.heap.size + 1, 2, none⟩ = some (.int .i64 a1_2) ∧ w'.cell? ⟨w.heap.size + 1, 3, none⟩ = some (.int .i64 a1_3) ∧ w'.cell? ⟨w.heap.size + 1, 4, none⟩ = some (.int .i64 a1_4) ∧ w'.cell? ⟨w.heap.size + 1, 5, none⟩ = some (.slice A1_5 l1_5.length c1_5)) (ds := []) #[false, false, false, false, false, false, false, false, false, false, false, false, false, false, false, false, false, false, false, false, false] (by kernel_rfl) rfl rfl HX.out.cells (fun hHeld => ?_); refine with_tabW frame_Check.tab4 frame_Check.bits4 (fun HT_ HW_ => ?_)
   refine pq_ 0 10 HT_ ?_
   refine tq_ 1 11 HT_ HW_ hHeld ?_
   refine pq_ 2 12 HT_ ?_
   refine pq_ 3 13 HT_ ?_
   refine pq_ 4 14 HT_ ?_
   refine tq_ 5 15 HT_ HW_ hHeld ?_
   refine tq_ 6 16 HT_ HW_ hHeld ?_
   refine oq_ 7 17 HT_ (fun K hK => ?_)
   clear hHeld
   refine goes_ Try.func49 (by kernel_rfl) rfl #[.agg #[.int .i64 a0_0, .int .i64 a0_1, .int .i64 a0_2, .int .i64 a0_3, .int .i64 a0_4, .slice A0_5 l0_5.length c0_5]] (by rfl) rfl rfl (by (try simp only [List.map_toArray, List.map_cons, List.map_nil]); first | done | rfl) ?_
   with_reducible refine (conf_Slots.calls a0_0 a0_1 a0_2 a0_3 a0_4 A0_5 c0_5 l0_5 sl _ (Kd.C_below HR0.out HX.out.hb) HC0.out ASL.out).mono ?_
   rintro e w5 ⟨rfl, hb⟩
   refine ⟨_, rfl, ?_⟩
   replace HX := Aside0.mk (HX.out.below hb)
   clear hb
   refine hK.out _ _ HX.out.cells (fun hHeld => ?_)
   clear hK K
   refine nq_ 17 ?_
   refine pq_ 8 18 HT_ ?_
   refine pq_ 9 19 HT_ ?_
   refine pq_ 10 20 HT_ ?_
   refine pq_ 11 21 HT_ ?_
   refine tq_ 12 22 HT_ HW_ hHeld ?_
   refine pq_ 13 23 HT_ ?_
   refine pq_ 14 24 HT_ ?_
   refine pq_ 15 25 HT_ ?_
   refine pu_ 16 26 HT_ ?_
   refine pu_ 17 27 HT_ ?_
   refine pu_ 18 28 HT_ ?_
   refine pq_ 19 29 HT_ ?_
   refine pq_ 20 9 HT_ ?_
   refine done_ (done_of HT_.out (by kernel_rfl)) ?_
   go_wp2
   go_ret
   exact ⟨by rw [HR.out]; rfl, HX.out.hb⟩
  have bs2 : decide (a1_1 < 0) = false := decide_eq_false s2
  by_cases s3 : 65535 < a1_1
  ·
   have HR : Aside0 (r = 1) := ⟨by have h := HF.out; rw [if_pos (Or.inr (Or.inr (Or.inr s3)))] at h; exact (Option.some.inj h).symm⟩
   have bs3 : decide (65535 < a1_1) = true := decide_eq_true s3
   clear s3
   have HX1 := Aside0.mk (HX.out.below (below_drew1 (Below.refl _ _)))
   clear HX
   have HX := HX1
   clear HX1
   refine start_ (n := 21) (S := fun w' => w'.cell? ⟨w.heap.size, 0, none⟩ = some (.int .i64 a0_0) ∧ w'.cell? ⟨w.heap.size, 1, none⟩ = some (.int .i64 a0_1) ∧ w'.cell? ⟨w.heap.size, 2, none⟩ = some (.int .i64 a0_2) ∧ w'.cell? ⟨w.heap.size, 3, none⟩ = some (.int .i64 a0_3) ∧ w'.cell? ⟨w.heap.size, 4, none⟩ = some (.int .i64 a0_4) ∧ w'.cell? ⟨w.heap.size, 5, none⟩ = some (.slice A0_5 l0_5.length c0_5) ∧ w'.cell? ⟨w.heap.size + 1, 0, none⟩ = some (.int .i64 a1_0) ∧ w'.cell? ⟨w.heap.size + 1, 1, none⟩ = some (.int .i64 a1_1) ∧ w'.cell? ⟨w.heap.size + 1, 2, none⟩ = some (.int .i64 a1_2) ∧ w'.cell? ⟨w.heap.size + 1, 3, none⟩ = some (.int .i64 a1_3) ∧ w'.cell? ⟨w.heap.size + 1, 4, none⟩ = some (.int .i64 a1_4) ∧ w'.cell? ⟨w.heap.size + 1, 5, none⟩ = some (.slice A1_5 l1_5.length c1_5)) (ds := []) #[false, false, false, false, false, false, false, false, false, false, false, false, false, false, false, false, false, false, false, false, false] (by kernel_rfl) rfl rfl HX.out.cells (fun hHeld => ?_); refine with_tabW frame_Check.tab4 frame_Check.bits4 (fun HT_ HW_ => ?_)
   refine pq_ 0 10 HT_ ?_
   refine tq_ 1 11 HT_ HW_ hHeld ?_
   refine pq_ 2 12 HT_ ?_
   refine pq_ 3 13 HT_ ?_
   refine pq_ 4 14 HT_ ?_
   refine tq_ 5 15 HT_ HW_ hHeld ?_
   refine tq_ 6 16 HT_ HW_ hHeld ?_
   refine oq_ 7 17 HT_ (fun K hK => ?_)
   clear hHeld
   refine goes_ Try.func49 (by kernel_rfl) rfl #[.agg #[.int .i64 a0_0, .int .i64 a0_1, .int .i64 a0_2, .int .i64 a0_3, .int .i64 a0_4, .slice A0_5 l0_5.length c0_5]] (by rfl) rfl rfl (by (try simp only [List.map_toArray, List.map_cons, List.map_nil]); first | done | rfl) ?_
   with_reducible refine (conf_Slots.calls a0_0 a0_1 a0_2 a0_3 a0_4 A0_5 c0_5 l0_5 sl _ (Kd.C_below HR0.out HX.out.hb) HC0.out ASL.out).mono ?_
   rintro e w5 ⟨rfl, hb⟩
   refine ⟨_, rfl, ?_⟩
   replace HX := Aside0.mk (HX.out.below hb)
   clear hb
   refine hK.out _ _ HX.out.cells (fun hHeld => ?_)
   clear hK K
   refine nq_ 17 ?_
   refine pq_ 8 18 HT_ ?_
   refine pq_ 9 19 HT_ ?_
   refine pq_ 10 20 HT_ ?_
   refine pq_ 11 21 HT_ ?_
   refine tq_ 12 22 HT_ HW_ hHeld ?_
   refine pq_ 13 23 HT_ ?_
   refine pq_ 14 24 HT_ ?_
   refine pq_ 15 25 HT_ ?_
   refine pq_ 16 26 HT_ ?_
   refine tq_ 17 27 HT_ HW_ hHeld ?_
   refine pq_ 18 28 HT_ ?_
   refine pq_ 19 29 HT_ ?_
   refine pq_ 20 9 HT_ ?_
   refine done_ (done_of HT_.out (by kernel_rfl)) ?_
   go_wp2
   go_ret
   exact ⟨by rw [HR.out]; rfl, HX.out.hb⟩
  have bs3 : decide (65535 < a1_1) = false := decide_eq_false s3
  have HF1 : Aside0 ((if a1_0 < 1 ∨ 3 < a1_0 ∨ (a0_0 ≤ a1_2 ∧ a1_0 ≠ 3) then some 6 else if (if a1_0 = 3 then itemVal ⟨a1_3, a1_4⟩ else itemEmp ⟨a1_3, a1_4⟩) = false then some 1 else if (l1_5.length : Int) ≠ ec then some 2 else if l1_5.any (fun x => !itemEmp x && !itemVal x) = true then some 1 else some 0) = some r) := ⟨by have h := HF.out; rw [if_neg (fun h => h.elim s0 (fun h => h.elim s1 (fun h => h.elim s2 s3)))] at h; exact h⟩
  clear HF s0 s1 s2 s3
  have HX1 := Aside0.mk (HX.out.below (below_drew1 (Below.refl _ _)))
  clear HX
  have HX := HX1
  clear HX1
  refine start_ (n := 21) (S := fun w' => w'.cell? ⟨w.heap.size, 0, none⟩ = some (.int .i64 a0_0) ∧ w'.cell? ⟨w.heap.size, 1, none⟩ = some (.int .i64 a0_1) ∧ w'.cell? ⟨w.heap.size, 2, none⟩ = some (.int .i64 a0_2) ∧ w'.cell? ⟨w.heap.size, 3, none⟩ = some (.int .i64 a0_3) ∧ w'.cell? ⟨w.heap.size, 4, none⟩ = some (.int .i64 a0_4) ∧ w'.cell? ⟨w.heap.size, 5, none⟩ = some (.slice A0_5 l0_5.length c0_5) ∧ w'.cell? ⟨w.heap.size + 1, 0, none⟩ = some (.int .i64 a1_0) ∧ w'.cell? ⟨w.heap.size + 1, 1, none⟩ = some (.int .i64 a1_1) ∧ w'.cell? ⟨w.heap.size + 1, 2, none⟩ = some (.int .i64 a1_2) ∧ w'.cell? ⟨w.heap.size + 1, 3, none⟩ = some (.int .i64 a1_3) ∧ w'.cell? ⟨w.heap.size + 1, 4, none⟩ = some (.int .i64 a1_4) ∧ w'.cell? ⟨w.heap.size + 1, 5, none⟩ = some (.slice A1_5 l1_5.length c1_5)) (ds := []) #[false, false, false, false, false, false, false, false, false, false, false, false, false, false, false, false, false, false, false, false, false] (by kernel_rfl) rfl rfl HX.out.cells (fun hHeld => ?_); refine with_tabW frame_Check.tab4 frame_Check.bits4 (fun HT_ HW_ => ?_)
  refine pq_ 0 10 HT_ ?_
  refine tq_ 1 11 HT_ HW_ hHeld ?_
  refine pq_ 2 12 HT_ ?_
  refine pq_ 3 13 HT_ ?_
  refine pq_ 4 14 HT_ ?_
  refine tq_ 5 15 HT_ HW_ hHeld ?_
  refine tq_ 6 16 HT_ HW_ hHeld ?_
  refine oq_ 7 17 HT_ (fun K hK => ?_)
  clear hHeld
  refine goes_ Try.func49 (by kernel_rfl) rfl #[.agg #[.int .i64 a0_0, .int .i64 a0_1, .int .i64 a0_2, .int .i64 a0_3, .int .i64 a0_4, .slice A0_5 l0_5.length c0_5]] (by rfl) rfl rfl (by (try simp only [List.map_toArray, List.map_cons, List.map_nil]); first | done | rfl) ?_
  with_reducible refine (conf_Slots.calls a0_0 a0_1 a0_2 a0_3 a0_4 A0_5 c0_5 l0_5 sl _ (Kd.C_below HR0.out HX.out.hb) HC0.out ASL.out).mono ?_
  rintro e w5 ⟨rfl, hb⟩
  refine ⟨_, rfl, ?_⟩
  replace HX := Aside0.mk (HX.out.below hb)
  clear hb
  refine hK.out _ _ HX.out.cells (fun hHeld => ?_)
  clear hK K
  refine nq_ 17 ?_
  refine pq_ 8 18 HT_ ?_
  refine pq_ 9 19 HT_ ?_
  refine pq_ 10 20 HT_ ?_
  refine pq_ 11 21 HT_ ?_
  refine tq_ 12 22 HT_ HW_ hHeld ?_
  refine pq_ 13 23 HT_ ?_
  refine pq_ 14 24 HT_ ?_
  refine pq_ 15 25 HT_ ?_
  refine pq_ 16 26 HT_ ?_
  refine tq_ 17 27 HT_ HW_ hHeld ?_
  refine pq_ 18 28 HT_ ?_
  refine pq_ 19 29 HT_ ?_
  refine pq_ 20 9 HT_ ?_
  refine done_ (done_of HT_.out (by kernel_rfl)) ?_
  clear hHeld HT_ HW_ bs0 bs1 bs2 bs3
  obtain ⟨z0, z1, z2, z3, z4, z5, y0, y1, y2, y3, y4, y5⟩ := HX.out.cells
  go_upto_region 6 with fail
  go_cut [30] (fun v30 wc => v30 = .bool (decide (a1_0 < 1) || (decide (3 < a1_0) || (decide (a0_0 ≤ a1_2) && (a1_0 != 3)))) ∧ Aside0 (FrameIs w a0_0 a0_1 a0_2 a0_3 a0_4 (.slice A0_5 l0_5.length c0_5) a1_0 a1_1 a1_2 a1_3 a1_4 (.slice A1_5 l1_5.length c1_5) wc))
  case first =>
   by_cases k1 : a1_0 < 1
   ·
    have b1 : decide (a1_0 < 1) = true := decide_eq_true k1
    clear k1
    go_wp2
    go_meet
    case rel => exact ⟨by rw [b1]; rfl, HX⟩
   have b1 : decide (a1_0 < 1) = false := decide_eq_false k1
   clear k1
   by_cases k2 : 3 < a1_0
   ·
    have b2 : decide (3 < a1_0) = true := decide_eq_true k2
    clear k2
    go_wp2
    go_meet
    case rel => exact ⟨by rw [b1, b2]; rfl, HX⟩
   have b2 : decide (3 < a1_0) = false := decide_eq_false k2
   clear k2
   by_cases k3 : a0_0 ≤ a1_2
   ·
    have b3 : decide (a0_0 ≤ a1_2) = true := decide_eq_true k3
    clear k3
    cases hb4 : a1_0 != 3 with
    | true =>
     go_wp2
     go_meet
     case rel => exact ⟨by rw [b1, b2, b3, hb4]; rfl, HX⟩
    | false =>
     go_wp2
     go_meet
     case rel => exact ⟨by rw [b1, b2, b3, hb4]; rfl, HX⟩
   ·
    have b3 : decide (a0_0 ≤ a1_2) = false := decide_eq_false k3
    clear k3
    go_wp2
    go_meet
    case rel => exact ⟨by rw [b1, b2, b3]; rfl, HX⟩
  case rest =>
  clear z0 z1 z2 z3 z4 z5 y0 y1 y2 y3 y4 y5 HX
  obtain ⟨rfl, HX⟩ := hcut
  have hbad : (decide (a1_0 < 1) || (decide (3 < a1_0) || (decide (a0_0 ≤ a1_2) && (a1_0 != 3)))) = true ↔ (a1_0 < 1 ∨ 3 < a1_0 ∨ (a0_0 ≤ a1_2 ∧ a1_0 ≠ 3)) := by
   simp only [Bool.or_eq_true, Bool.and_eq_true, decide_eq_true_eq, bne_iff_ne]
  cases hb : (decide (a1_0 < 1) || (decide (3 < a1_0) || (decide (a0_0 ≤ a1_2) && (a1_0 != 3)))) with
  | true =>
   have HR : Aside0 (r = 6) := ⟨by have h := HF1.out; rw [if_pos (hbad.1 hb)] at h; exact (Option.some.inj h).symm⟩
   clear hb hbad
   go_wp2
   go_ret
   exact ⟨by rw [HR.out]; rfl, HX.out.hb⟩
  | false =>
  have HF2 : Aside0 ((if (if a1_0 = 3 then itemVal ⟨a1_3, a1_4⟩ else itemEmp ⟨a1_3, a1_4⟩) = false then some 1 else if (l1_5.length : Int) ≠ ec then some 2 else if l1_5.any (fun x => !itemEmp x && !itemVal x) = true then some 1 else some 0) = some r) := ⟨by have h := HF1.out; rw [if_neg (fun h => by rw [hbad.2 h] at hb; exact absurd hb (by decide))] at h; exact h⟩
  clear HF1 hb hbad
  obtain ⟨z0, z1, z2, z3, z4, z5, y0, y1, y2, y3, y4, y5⟩ := HX.out.cells
  obtain ⟨mv, hmv⟩ : ∃ b : Bool, b = (if a1_0 = 3 then itemVal ⟨a1_3, a1_4⟩ else itemEmp ⟨a1_3, a1_4⟩) := ⟨_, rfl⟩
  rw [← hmv] at HF2
  have HMV := Aside0.mk hmv
  clear hmv
  go_upto_region 8 with fail
  go_cut [51] (fun v51 wc => v51 = .bool (!mv) ∧ Aside0 (FrameIs w a0_0 a0_1 a0_2 a0_3 a0_4 (.slice A0_5 l0_5.length c0_5) a1_0 a1_1 a1_2 a1_3 a1_4 (.slice A1_5 l1_5.length c1_5) wc))
  case first =>
   by_cases h3 : a1_0 = 3
   ·
    have hv := HFV.out
    rw [if_pos h3] at hv
    have hm := HMV.out
    rw [if_pos h3] at hm
    have HM := Aside0.mk hm
    clear hm h3 HMV HFV HF2
    subst hv
    go_wp2_with fail
    refine (frame_value.calls _ _ mv _ (by rw [HM.out]; exact frame_value_eq ⟨a1_3, a1_4⟩)).mono ?_
    rintro e w6 ⟨rfl, hb⟩
    have HX2 := Aside0.mk (HX.out.below hb)
    clear hb
    go_wp2
    go_meet
    case rel => exact ⟨rfl, HX2⟩
   ·
    have hv := HFV.out
    rw [if_neg h3] at hv
    have hm := HMV.out
    rw [if_neg h3] at hm
    have HM := Aside0.mk hm
    clear hm h3 HMV HFV HF2
    subst hv
    go_wp2_with fail
    refine (frame_empty.calls _ _ mv _ (by rw [HM.out]; exact frame_empty_eq ⟨a1_3, a1_4⟩)).mono ?_
    rintro e w6 ⟨rfl, hb⟩
    have HX2 := Aside0.mk (HX.out.below hb)
    clear hb
    go_wp2
    go_meet
    case rel => exact ⟨rfl, HX2⟩
  case rest =>
  clear z0 z1 z2 z3 z4 z5 y0 y1 y2 y3 y4 y5 HX HMV HFV
  obtain ⟨rfl, HX⟩ := hcut
  cases mv with
  | false =>
   have HR : Aside0 (r = 1) := ⟨by have h := HF2.out; rw [if_pos rfl] at h; exact (Option.some.inj h).symm⟩
   go_wp2
   go_ret
   exact ⟨by rw [HR.out]; rfl, HX.out.hb⟩
  | true =>
  have HF3 : Aside0 ((if (l1_5.length : Int) ≠ ec then some 2 else if l1_5.any (fun x => !itemEmp x && !itemVal x) = true then some 1 else some 0) = some r) := ⟨by have h := HF2.out; rw [if_neg (by decide)] at h; exact h⟩
  clear HF2
  go_wp2
  by_cases n0 : (l1_5.length : Int) = ec
  ·
   have bn : ((l1_5.length : Int) != ec) = false := bne_eq_false_iff_eq.mpr n0
   have HF4 : Aside0 ((if l1_5.any (fun x => !itemEmp x && !itemVal x) = true then some 1 else some 0) = some r) := ⟨by have h := HF3.out; rw [if_neg (fun h => h n0)] at h; exact h⟩
   clear HF3 n0
   have HX1 := Aside0.mk (HX.out.below (below_drew1 (Below.refl _ _)))
   clear HX
   have HX := HX1
   clear HX1
   refine start_ (n := 11) (S := fun w' => w'.cell? ⟨w.heap.size, 0, none⟩ = some (.int .i64 a0_0) ∧ w'.cell? ⟨w.heap.size, 1, none⟩ = some (.int .i64 a0_1) ∧ w'.cell? ⟨w.heap.size, 2, none⟩ = some (.int .i64 a0_2) ∧ w'.cell? ⟨w.heap.size, 3, none⟩ = some (.int .i64 a0_3) ∧ w'.cell? ⟨w.heap.size, 4, none⟩ = some (.int .i64 a0_4) ∧ w'.cell? ⟨w.heap.size, 5, none⟩ = some (.slice A0_5 l0_5.length c0_5) ∧ w'.cell? ⟨w.heap.size + 1, 0, none⟩ = some (.int .i64 a1_0) ∧ w'.cell? ⟨w.heap.size + 1, 1, none⟩ = some (.int .i64 a1_1) ∧ w'.cell? ⟨w.heap.size + 1, 2, none⟩ = some (.int .i64 a1_2) ∧ w'.cell? ⟨w.heap.size + 1, 3, none⟩ = some (.int .i64 a1_3) ∧ w'.cell? ⟨w.heap.size + 1, 4, none⟩ = some (.int .i64 a1_4) ∧ w'.cell? ⟨w.heap.size + 1, 5, none⟩ = some (.slice A1_5 l1_5.length c1_5)) (ds := []) #[false, false, false, false, false, false, false, false, false, false, false] (by kernel_rfl) rfl rfl HX.out.cells (fun hHeld => ?_); refine with_tabW frame_Check.tab10 frame_Check.bits10 (fun HT_ HW_ => ?_)
   refine pq_ 0 58 HT_ ?_
   refine pq_ 4 62 HT_ ?_
   refine pq_ 6 64 HT_ ?_
   refine tq_ 1 59 HT_ HW_ hHeld ?_
   refine pq_ 2 60 HT_ ?_
   refine tq_ 3 61 HT_ HW_ hHeld ?_
   refine tq_ 5 63 HT_ HW_ hHeld ?_
   refine tq_ 7 65 HT_ HW_ hHeld ?_
   refine oq_ 8 66 HT_ (fun K hK => ?_)
   clear hHeld
   refine goes_ Try.func50 (by kernel_rfl) rfl #[.agg #[.int .i64 a0_0, .int .i64 a0_1, .int .i64 a0_2, .int .i64 a0_3, .int .i64 a0_4, .slice A0_5 l0_5.length c0_5], .int .i64 a1_0, .int .i64 a1_2] (by rfl) rfl rfl (by (try simp only [List.map_toArray, List.map_cons, List.map_nil]); first | done | rfl) ?_
   with_reducible refine (frame_echoes.calls a0_0 a0_1 a0_2 a0_3 a0_4 A0_5 c0_5 l0_5 a1_0 a1_2 ec _ (Kd.C_below HR0.out HX.out.hb) HC0.out AEC.out).mono ?_
   rintro e w9 ⟨rfl, hb⟩
   refine ⟨_, rfl, ?_⟩
   replace HX := Aside0.mk (HX.out.below hb)
   clear hb
   refine hK.out _ _ HX.out.cells (fun hHeld => ?_)
   clear hK K
   refine nq_ 66 ?_
   refine pq_ 9 67 HT_ ?_
   refine pq_ 10 57 HT_ ?_
   refine done_ (done_of HT_.out (by kernel_rfl)) ?_
   clear hHeld HT_ HW_
   obtain ⟨z0, z1, z2, z3, z4, z5, y0, y1, y2, y3, y4, y5⟩ := HX.out.cells
   go_wp2_with fail
   refine (slices_ContainsFunc_item_any (fun x => !itemEmp x && !itemVal x) 52 #[] A1_5 c1_5 l1_5 _ (Kd.C_below HR1.out HX.out.hb) (enters_at Try.func52 (by kernel_rfl) rfl) (fun x W => frame_Check_closure x W)).mono ?_
   rintro e w10 ⟨rfl, hb⟩
   have HX2 := Aside0.mk (HX.out.below hb)
   clear hb
   have h := HF4.out
   by_cases hA : (l1_5.any fun x => !itemEmp x && !itemVal x) = true
   ·
    rw [if_pos hA] at h
    have HR := Aside0.mk (Option.some.inj h)
    rw [hA]
    clear h HF4 hA
    go_wp2
    go_ret
    exact ⟨by rw [← HR.out]; rfl, HX2.out.hb⟩
   ·
    rw [if_neg hA] at h
    have HR := Aside0.mk (Option.some.inj h)
    rw [Bool.not_eq_true] at hA
    rw [hA]
    clear h HF4 hA
    go_wp2
    go_ret
    exact ⟨by rw [← HR.out]; rfl, HX2.out.hb⟩
  ·
   have bn : ((l1_5.length : Int) != ec) = true := bne_iff_ne.mpr n0
   have HR : Aside0 (r = 2) := ⟨by have h := HF3.out; rw [if_pos n0] at h; exact (Option.some.inj h).symm⟩
   clear HF3 n0
   have HX1 := Aside0.mk (HX.out.below (below_drew1 (Below.refl _ _)))
   clear HX
   have HX := HX1
   clear HX1
   refine start_ (n := 11) (S := fun w' => w'.cell? ⟨w.heap.size, 0, none⟩ = some (.int .i64 a0_0) ∧ w'.cell? ⟨w.heap.size, 1, none⟩ = some (.int .i64 a0_1) ∧ w'.cell? ⟨w.heap.size, 2, none⟩ = some (.int .i64 a0_2) ∧ w'.cell? ⟨w.heap.size, 3, none⟩ = some (.int .i64 a0_3) ∧ w'.cell? ⟨w.heap.size, 4, none⟩ = some (.int .i64 a0_4) ∧ w'.cell? ⟨w.heap.size, 5, none⟩ = some (.slice A0_5 l0_5.length c0_5) ∧ w'.cell? ⟨w.heap.size + 1, 0, none⟩ = some (.int .i64 a1_0) ∧ w'.cell? ⟨w.heap.size + 1, 1, none⟩ = some (.int .i64 a1_1) ∧ w'.cell? ⟨w.heap.size + 1, 2, none⟩ = some (.int .i64 a1_2) ∧ w'.cell? ⟨w.heap.size + 1, 3, none⟩ = some (.int .i64 a1_3) ∧ w'.cell? ⟨w.heap.size + 1, 4, none⟩ = some (.int .i64 a1_4) ∧ w'.cell? ⟨w.heap.size + 1, 5, none⟩ = some (.slice A1_5 l1_5.length c1_5)) (ds := []) #[false, false, false, false, false, false, false, false, false, false, false] (by kernel_rfl) rfl rfl HX.out.cells (fun hHeld => ?_); refine with_tabW frame_Check.tab10 frame_Check.bits10 (fun HT_ HW_ => ?_)
   refine pq_ 0 58 HT_ ?_
   refine pq_ 4 62 HT_ ?_
   refine pq_ 6 64 HT_ ?_
   refine tq_ 1 59 HT_ HW_ hHeld ?_
   refine pq_ 2 60 HT_ ?_
   refine tq_ 3 61 HT_ HW_ hHeld ?_
   refine tq_ 5 63 HT_ HW_ hHeld ?_
   refine tq_ 7 65 HT_ HW_ hHeld ?_
   refine oq_ 8 66 HT_ (fun K hK => ?_)
   clear hHeld
   refine goes_ Try.func50 (by kernel_rfl) rfl #[.agg #[.int .i64 a0_0, .int .i64 a0_1, .int .i64 a0_2, .int .i64 a0_3, .int .i64 a0_4, .slice A0_5 l0_5.length c0_5], .int .i64 a1_0, .int .i64 a1_2] (by rfl) rfl rfl (by (try simp only [List.map_toArray, List.map_cons, List.map_nil]); first | done | rfl) ?_
   with_reducible refine (frame_echoes.calls a0_0 a0_1 a0_2 a0_3 a0_4 A0_5 c0_5 l0_5 a1_0 a1_2 ec _ (Kd.C_below HR0.out HX.out.hb) HC0.out AEC.out).mono ?_
   rintro e w9 ⟨rfl, hb⟩
   refine ⟨_, rfl, ?_⟩
   replace HX := Aside0.mk (HX.out.below hb)
   clear hb
   refine hK.out _ _ HX.out.cells (fun hHeld => ?_)
   clear hK K
   refine nq_ 66 ?_
   refine pq_ 9 67 HT_ ?_
   refine pq_ 10 57 HT_ ?_
   refine done_ (done_of HT_.out (by kernel_rfl)) ?_
   clear hHeld HT_ HW_
   go_wp2
   go_ret
   exact ⟨by rw [HR.out]; rfl, HX.out.hb⟩
def frame_item.f (k : Nat) (a0_0 : Int) (a0_1 : Int) : Option (ByteArray) := (sym_Bits.f k a0_0 2).bind fun tAf => ((sym_Bits.f k a0_1 8).bind fun tAg => (if tAf.size + tAg.size ≤ 9223372036854775807 then (some (tAf ++ tAg)) else (none)))
def frame_item.T1 : Bool × List (List Nat × List Nat) := (true, [([], []), ([0], [0]), ([1], [1]), ([], []), ([3], [3]), ([4, 2], [4]), ([2, 5], [2, 5]), ([6, 5, 0, 1, 2, 3, 4, 5, 6], [6])])
def frame_item.B1 : List Nat := [0, 1, 3, 0, 8, 31, 63, 127]
theorem frame_item.tab1 : rtab .any (opsOf Try.f57 1) = frame_item.T1 := by kernel_rfl
theorem frame_item.bits1 : waitsOk frame_item.T1.2 frame_item.B1 = true := by kernel_rfl
set_option maxHeartbeats 8000000 in
set_option maxRecDepth 100000 in
theorem frame_item.calls (k : Nat) (a0_0 : Int) (a0_1 : Int) (r : ByteArray) (w : World) (h : frame_item.f k a0_0 a0_1 = some r) :
  Calls Try.prog 57 #[.agg #[.int .i64 a0_0, .int .i64 a0_1]] w fun e w' => e = .returned (.string r) ∧ Below w.heap.size w w' := by
 have hu26 := Try.underlying26
 have HB := Aside0.mk (Below.refl w.heap.size w)
 have H : ((sym_Bits.f k a0_0 2).bind fun tAf => ((sym_Bits.f k a0_1 8).bind fun tAg => (if tAf.size + tAg.size ≤ 9223372036854775807 then (some (tAf ++ tAg)) else (none)))) = some r := h
 clear h
 replace H := Option.bind_eq_some_iff.mp H
 obtain ⟨tAf, A20, H⟩ := H
 try dsimp only at H
 have A2 := Aside0.mk A20
 clear A20
 replace H := Option.bind_eq_some_iff.mp H
 obtain ⟨tAg, A30, H⟩ := H
 try dsimp only at H
 have A3 := Aside0.mk A30
 clear A30
 by_cases c4 : tAf.size + tAg.size ≤ 9223372036854775807
 ·
  rw [if_pos c4] at H
  have c4b0 := eq_true c4
  have c4b1 : decide (tAf.size + tAg.size ≤ 9223372036854775807) = true := decide_eq_true c4
  try have c4b2 : (9223372036854775807 < tAf.size + tAg.size) = False := eq_false (Nat.not_lt.2 c4)
  obtain rfl := Option.some.inj H
  go_enter Try.func57, Try.ntmps57
  try go_wp2_with (first | ((with_reducible refine gate_dst (N := 1) rfl ?_); refine be_ 1 #[.int .i64 a0_0, .int .i64 a0_1] 26 ?_; intro gbAd hg w5 hbox hb; have n0_ := bs_ HB hb; have n1_ := Aside0.mk (hbox); have n2_ := Aside0.mk ((by rw [hg]; exact (below_size (pH_ HB.out)) : w.heap.size ≤ gbAd)); have n3_ := Aside0.mk ((by rw [hg]; exact (below_size (pH_ HB.out)) : w.heap.size ≤ gbAd)); clear HB; have HB := n0_; have BKAd := n1_; have GWAd := n2_; have GEAd := n3_; clear n0_ n1_ n2_ n3_; clear hb hbox hg))
  have n0_ := Aside0.mk (blk_drew BKAd.out)
  have n1_ := Aside0.mk (below_drew1 HB.out)
  clear BKAd
  clear HB
  have BKAd := n0_
  have HB := n1_
  clear n0_ n1_
  refine start_ (n := 8) (S := fun w' => w'.cell? ⟨gbAd, 0, none⟩ = some (.int .i64 a0_0) ∧ w'.cell? ⟨gbAd, 1, none⟩ = some (.int .i64 a0_1)) (ds := []) #[false, false, false, false, false, false, false, false] (by kernel_rfl) rfl rfl ⟨bc_ BKAd 0, bc_ BKAd 1⟩ (fun hHeld => ?_); refine with_tabW frame_item.tab1 frame_item.bits1 (fun HT_ HW_ => ?_)
  generalize w5.drew = w6 at BKAd HB hHeld ⊢
  refine pq_ 0 3 HT_ ?_
  refine pq_ 3 6 HT_ ?_
  refine tq_ 1 4 HT_ HW_ hHeld ?_
  refine tq_ 4 7 HT_ HW_ hHeld ?_
  refine oq_ 2 5 HT_ (fun K hK => ?_)
  refine gs_ Try.func56 #[.int .i64 a0_0, .int .i64 2] ?_
  with_reducible refine (sym_Bits.calls k a0_0 2 tAf _ A2.out).mono ?_
  rintro e w7 ⟨rfl, hb⟩
  refine ⟨_, rfl, ?_⟩
  have n0_ := Aside0.mk (blk_below (g := gbAd) (o := .cells #[.int .i64 a0_0, .int .i64 a0_1] 26 (0, 0)) (pB_ BKAd.out) hb)
  have n1_ := bs_ HB hb
  clear BKAd
  clear HB
  have BKAd := n0_
  have HB := n1_
  clear n0_ n1_
  (try clear hb)
  (try clear hb2)
  (try clear hk)
  (try clear hi)
  refine hK.out _ _ ⟨bc_ BKAd 0, bc_ BKAd 1⟩ (fun hHeld => ?_)
  clear hK K
  refine nq_ 5 ?_
  refine oq_ 5 8 HT_ (fun K hK => ?_)
  refine gs_ Try.func56 #[.int .i64 a0_1, .int .i64 8] ?_
  with_reducible refine (sym_Bits.calls k a0_1 8 tAg _ A3.out).mono ?_
  rintro e w8 ⟨rfl, hb⟩
  refine ⟨_, rfl, ?_⟩
  have n0_ := Aside0.mk (blk_below (g := gbAd) (o := .cells #[.int .i64 a0_0, .int .i64 a0_1] 26 (0, 0)) (pB_ BKAd.out) hb)
  have n1_ := bs_ HB hb
  clear BKAd
  clear HB
  have BKAd := n0_
  have HB := n1_
  clear n0_ n1_
  (try clear hb)
  (try clear hb2)
  (try clear hk)
  (try clear hi)
  refine hK.out _ _ ⟨bc_ BKAd 0, bc_ BKAd 1⟩ (fun hHeld => ?_)
  clear hK K
  refine nq_ 8 ?_
  refine pq_ 6 9 HT_ ?_
  refine pq_ 7 2 HT_ ?_
  refine done_ (done_of HT_.out (by kernel_rfl)) ?_
  try go_wp2
  go_ret
  exact ⟨by first | rfl | (simp [errW_none, errW_some] <;> rfl) | (simp [*, errW_none, errW_some] <;> rfl), pH_ HB.out⟩
 ·
  rw [if_neg c4] at H
  exact absurd H (by simp)
def frameItemL (x : S26) : List UInt8 := bitsL x.f0 2 ++ bitsL x.f1 8
def frameBits (a1_0 a1_1 a1_2 a1_3 a1_4 : Int) (l : List S26) : List UInt8 :=
 bitsL a1_0 2 ++ bitsL a1_1 16 ++ bitsL a1_2 6 ++ (bitsL a1_3 2 ++ bitsL a1_4 8) ++ l.flatMap frameItemL
theorem frame_item_eq (k : Nat) (a b : Int) : frame_item.f (k + 70) a b = some (ofL (bitsL a 2 ++ bitsL b 8)) := by
 unfold frame_item.f
 rw [show (2 : Int) = ((2 : Nat) : Int) from rfl, show (8 : Int) = ((8 : Nat) : Int) from rfl, sym_Bits_eq k _ 2 (by decide) (by decide), sym_Bits_eq k _ 8 (by decide) (by decide)]
 simp only [Option.bind_some]
 rw [ofL_append, ofL_size, ofL_size, bitsL_length, bitsL_length, if_pos (by decide)]
theorem frameItemL_length (x : S26) : (frameItemL x).length = 10 := by simp [frameItemL, bitsL_length]
theorem flat_length (l : List S26) : (l.flatMap frameItemL).length = 10 * l.length := by
 induction l with
 | nil => rfl
 | cons x t ih => rw [List.flatMap_cons, List.length_append, ih, frameItemL_length, List.length_cons]; omega
theorem frameBits_length (a b c d e : Int) (l : List S26) : (frameBits a b c d e l).length = 34 + 10 * l.length := by
 unfold frameBits
 simp only [List.length_append, bitsL_length, flat_length]
theorem frameBits_bit (a b c d e : Int) (l : List S26) : ∀ x ∈ frameBits a b c d e l, isBit x = true := by
 intro x hx
 unfold frameBits at hx
 simp only [List.mem_append, List.mem_flatMap, frameItemL] at hx
 rcases hx with (((h | h) | h) | h | h) | ⟨y, _, h | h⟩ <;> exact bitsL_bit _ _ x h
def frame_Text.f (a0_0 : Int) (a0_1 : Int) (a0_2 : Int) (a0_3 : Int) (a0_4 : Int) (l0_5 : List Int) (a1_0 : Int) (a1_1 : Int) (a1_2 : Int) (a1_3 : Int) (a1_4 : Int) (l1_5 : List S26) : Option ByteArray :=
 if l1_5.length ≤ 1000000 then some (ofL (wrapL (frameBits a1_0 a1_1 a1_2 a1_3 a1_4 l1_5))) else none
def frame_Text.T2 : Bool × List (List Nat × List Nat) := (true, [([], []), ([0], [0]), ([1], [1]), ([], []), ([3], [3]), ([4, 2], [4]), ([2, 5], [2, 5]), ([], []), ([7], [7]), ([8, 5], [8]), ([6, 9], [6, 9]), ([], []), ([11], [11]), ([12, 9], [12]), ([10, 13], [10, 13]), ([14, 13], [14])])
def frame_Text.B2 : List Nat := [0, 1, 3, 0, 8, 31, 63, 0, 128, 447, 1023, 0, 2048, 7103, 16383, 32767]
theorem frame_Text.tab2 : rtab .any (opsOf Try.f26 2) = frame_Text.T2 := by kernel_rfl
theorem frame_Text.bits2 : waitsOk frame_Text.T2.2 frame_Text.B2 = true := by kernel_rfl
structure TextIs (w : World) (a1_0 a1_1 a1_2 a1_3 a1_4 : Int) (v : Value) (bs : List Value) (W : World) : Prop where
 blk : W.heap[w.heap.size + 1]? = some (.cells #[.int .i64 a1_0, .int .i64 a1_1, .int .i64 a1_2, .int .i64 a1_3, .int .i64 a1_4, v] 29 (0, 0))
 bld : Lib.IsBuilder 82 5 (w.heap.size + 2) (w.heap.size + 2) bs W
 hb : Below w.heap.size w W
 room : w.heap.size + 2 ≤ W.heap.size
theorem TextIs.below {w : World} {a1_0 a1_1 a1_2 a1_3 a1_4 : Int} {v : Value} {bs : List Value} {W W1 : World} (h : TextIs w a1_0 a1_1 a1_2 a1_3 a1_4 v bs W) (hb : Below W.heap.size W W1) : TextIs w a1_0 a1_1 a1_2 a1_3 a1_4 v bs W1 :=
 ⟨(hb.block _ (by have := h.room; omega)).trans h.blk, bld_below h.bld hb, below_then h.hb h.hb.size hb, by have := h.room; have := hb.size; omega⟩
theorem TextIs.write {w : World} {a1_0 a1_1 a1_2 a1_3 a1_4 : Int} {v : Value} {bs bs1 : List Value} {W W1 : World} (h : TextIs w a1_0 a1_1 a1_2 a1_3 a1_4 v bs W)
  (hA : Lib.BuilderAt 82 5 (w.heap.size + 2) (w.heap.size + 2) (.pointer (some ⟨w.heap.size + 2, 0, none⟩)) bs1 W1) (hb : Below (w.heap.size + 2) W W1) : TextIs w a1_0 a1_1 a1_2 a1_3 a1_4 v bs1 W1 :=
 ⟨(hb.block _ (by omega)).trans h.blk, .inr hA, h.hb.trans (hb.mono (by omega)), by have := h.room; have := hb.size; omega⟩
theorem TextIs.cells {w : World} {a1_0 a1_1 a1_2 a1_3 a1_4 : Int} {v : Value} {bs : List Value} {W : World} (h : TextIs w a1_0 a1_1 a1_2 a1_3 a1_4 v bs W) :
  W.cell? ⟨w.heap.size + 1, 0, none⟩ = some (.int .i64 a1_0) ∧ W.cell? ⟨w.heap.size + 1, 1, none⟩ = some (.int .i64 a1_1) ∧ W.cell? ⟨w.heap.size + 1, 2, none⟩ = some (.int .i64 a1_2) ∧ W.cell? ⟨w.heap.size + 1, 3, none⟩ = some (.int .i64 a1_3) ∧ W.cell? ⟨w.heap.size + 1, 4, none⟩ = some (.int .i64 a1_4) ∧ W.cell? ⟨w.heap.size + 1, 5, none⟩ = some v :=
 ⟨(blk_cell h.blk 0).trans rfl, (blk_cell h.blk 1).trans rfl, (blk_cell h.blk 2).trans rfl, (blk_cell h.blk 3).trans rfl, (blk_cell h.blk 4).trans rfl, (blk_cell h.blk 5).trans rfl⟩
theorem three_alloc (w : World) (a b c : Obj) : (((w.alloc a).alloc b).alloc c).heap[w.heap.size + 1]? = some b ∧ (((w.alloc a).alloc b).alloc c).heap.size = w.heap.size + 3 := by
 constructor
 ·
  have h2 : ((w.alloc a).alloc b).heap[w.heap.size + 1]? = some b := by
   have h := heap_alloc_new (w.alloc a) b
   simpa using h
  have hl : w.heap.size + 1 < ((w.alloc a).alloc b).heap.size := by simp
  rw [Lib.alloc_old _ c _ hl]
  exact h2
 · simp
theorem byteCells_append (a b : List UInt8) : Lib.byteCells (a ++ b) = Lib.byteCells a ++ Lib.byteCells b := by simp [Lib.byteCells]
theorem frameBits_snoc (a b c d e : Int) (l : List S26) (i : Nat) (hi : i < l.length) (x : S26) (hx : x = l[i]) : frameBits a b c d e (l.take i) ++ frameItemL x = frameBits a b c d e (l.take (i + 1)) := by
 subst hx
 unfold frameBits
 rw [List.take_add_one, List.getElem?_eq_getElem hi, Option.toList_some, List.flatMap_append, List.append_assoc]
 congr 2
theorem strCells_ofL (l : List UInt8) : Lib.strCells (ofL l) = Lib.byteCells l := rfl
set_option maxHeartbeats 8000000 in
set_option maxRecDepth 100000 in
theorem frame_Text.calls (a0_0 : Int) (a0_1 : Int) (a0_2 : Int) (a0_3 : Int) (a0_4 : Int) (A0_5 : Option Addr) (c0_5 : Nat) (l0_5 : List Int) (a1_0 : Int) (a1_1 : Int) (a1_2 : Int) (a1_3 : Int) (a1_4 : Int) (A1_5 : Option Addr) (c1_5 : Nat) (l1_5 : List (S26)) (r : ByteArray) (w : World) (hr0_5 : Kd.C (Kd.int .i64) w A0_5 l0_5.length l0_5) (hc0_5 : l0_5.length ≤ c0_5) (hr1_5 : Kd.C k26 w A1_5 l1_5.length l1_5) (hc1_5 : l1_5.length ≤ c1_5) (h : frame_Text.f a0_0 a0_1 a0_2 a0_3 a0_4 l0_5 a1_0 a1_1 a1_2 a1_3 a1_4 l1_5 = some r) :
  Calls Try.prog 26 #[.agg #[.int .i64 a0_0, .int .i64 a0_1, .int .i64 a0_2, .int .i64 a0_3, .int .i64 a0_4, .slice A0_5 l0_5.length c0_5], .agg #[.int .i64 a1_0, .int .i64 a1_1, .int .i64 a1_2, .int .i64 a1_3, .int .i64 a1_4, .slice A1_5 l1_5.length c1_5]] w fun e w' => e = .returned (.string r) ∧ Below w.heap.size w w' := by
 unfold frame_Text.f at h
 split at h
 case isFalse => exact absurd h (by simp)
 case isTrue hlen =>
 have HF := Aside0.mk (Option.some.inj h)
 clear h
 have HR0 := Aside0.mk hr0_5
 have HR1 := Aside0.mk hr1_5
 have HC1 := Aside0.mk hc1_5
 clear hr0_5 hr1_5 hc1_5
 have hu24 := Try.underlying24
 have hu29 := Try.underlying29
 obtain ⟨t1, ht1⟩ : ∃ t, t = ofL (bitsL a1_0 2) := ⟨_, rfl⟩
 obtain ⟨t2, ht2⟩ : ∃ t, t = ofL (bitsL a1_1 16) := ⟨_, rfl⟩
 obtain ⟨t3, ht3⟩ : ∃ t, t = ofL (bitsL a1_2 6) := ⟨_, rfl⟩
 obtain ⟨t4, ht4⟩ : ∃ t, t = ofL (bitsL a1_3 2 ++ bitsL a1_4 8) := ⟨_, rfl⟩
 have A1 : Aside0 (sym_Bits.f 70 a1_0 2 = some t1) := ⟨(sym_Bits_eq 0 a1_0 2 (by decide) (by decide)).trans (congrArg some ht1.symm)⟩
 have A2 : Aside0 (sym_Bits.f 70 a1_1 16 = some t2) := ⟨(sym_Bits_eq 0 a1_1 16 (by decide) (by decide)).trans (congrArg some ht2.symm)⟩
 have A3 : Aside0 (sym_Bits.f 70 a1_2 6 = some t3) := ⟨(sym_Bits_eq 0 a1_2 6 (by decide) (by decide)).trans (congrArg some ht3.symm)⟩
 have A4 : Aside0 (frame_item.f 70 a1_3 a1_4 = some t4) := ⟨(frame_item_eq 0 a1_3 a1_4).trans (congrArg some ht4.symm)⟩
 have s1 : t1.size = 2 := by rw [ht1, ofL_size, bitsL_length]
 have s2 : t2.size = 16 := by rw [ht2, ofL_size, bitsL_length]
 have s3 : t3.size = 6 := by rw [ht3, ofL_size, bitsL_length]
 have s4 : t4.size = 10 := by rw [ht4, ofL_size, List.length_append, bitsL_length, bitsL_length]
 have s12 : (t1 ++ t2).size = 18 := by rw [ByteArray.size_append, s1, s2]
 have s123 : ((t1 ++ t2) ++ t3).size = 24 := by rw [ByteArray.size_append, s12, s3]
 have s5 : (((t1 ++ t2) ++ t3) ++ t4).size = 34 := by rw [ByteArray.size_append, s123, s4]
 have hcat : Lib.strCells (((t1 ++ t2) ++ t3) ++ t4) = Lib.byteCells (frameBits a1_0 a1_1 a1_2 a1_3 a1_4 []) := by
  rw [ht1, ht2, ht3, ht4, ofL_append, ofL_append, ofL_append, strCells_ofL]
  unfold frameBits
  rw [List.flatMap_nil, List.append_nil]
 have HT := Aside0.mk hcat
 clear hcat
 clear ht1 ht2 ht3 ht4
 have hX : TextIs w a1_0 a1_1 a1_2 a1_3 a1_4 (.slice A1_5 l1_5.length c1_5) [] (((w.alloc (.cells #[.int .i64 a0_0, .int .i64 a0_1, .int .i64 a0_2, .int .i64 a0_3, .int .i64 a0_4, .slice A0_5 l0_5.length c0_5] 24)).alloc (.cells #[.int .i64 a1_0, .int .i64 a1_1, .int .i64 a1_2, .int .i64 a1_3, .int .i64 a1_4, .slice A1_5 l1_5.length c1_5] 29)).alloc (.cells #[.pointer none, .slice none 0 0] 82)) := by
  refine ⟨(three_alloc w _ _ _).1, ?_, below_alloc (below_alloc (below_alloc (Below.refl _ _) _) _) _, by rw [(three_alloc w _ _ _).2]; omega⟩
  have h5 := Lib.fresh_isBuilder 82 5 ((w.alloc (.cells #[.int .i64 a0_0, .int .i64 a0_1, .int .i64 a0_2, .int .i64 a0_3, .int .i64 a0_4, .slice A0_5 l0_5.length c0_5] 24)).alloc (.cells #[.int .i64 a1_0, .int .i64 a1_1, .int .i64 a1_2, .int .i64 a1_3, .int .i64 a1_4, .slice A1_5 l1_5.length c1_5] 29))
  simpa using h5
 have HX := Aside0.mk hX
 clear hX
 go_enter Try.func26, Try.ntmps26
 go_wp2
 have HX1 := Aside0.mk (HX.out.below (below_drew1 (Below.refl _ _)))
 clear HX
 have HX := HX1
 clear HX1
 refine start_ (n := 16) (S := fun w' => w'.cell? ⟨w.heap.size + 1, 0, none⟩ = some (.int .i64 a1_0) ∧ w'.cell? ⟨w.heap.size + 1, 1, none⟩ = some (.int .i64 a1_1) ∧ w'.cell? ⟨w.heap.size + 1, 2, none⟩ = some (.int .i64 a1_2) ∧ w'.cell? ⟨w.heap.size + 1, 3, none⟩ = some (.int .i64 a1_3) ∧ w'.cell? ⟨w.heap.size + 1, 4, none⟩ = some (.int .i64 a1_4) ∧ w'.cell? ⟨w.heap.size + 1, 5, none⟩ = some (.slice A1_5 l1_5.length c1_5)) (ds := []) #[false, false, false, false, false, false, false, false, false, false, false, false, false, false, false, false] (by kernel_rfl) rfl rfl HX.out.cells (fun hHeld => ?_); refine with_tabW frame_Text.tab2 frame_Text.bits2 (fun HT_ HW_ => ?_)
 refine pq_ 0 8 HT_ ?_
 refine pq_ 3 11 HT_ ?_
 refine pq_ 7 15 HT_ ?_
 refine pq_ 11 19 HT_ ?_
 refine tq_ 1 9 HT_ HW_ hHeld ?_
 refine tq_ 4 12 HT_ HW_ hHeld ?_
 refine tq_ 8 16 HT_ HW_ hHeld ?_
 refine tq_ 12 20 HT_ HW_ hHeld ?_
 refine oq_ 2 10 HT_ (fun K hK => ?_)
 clear hHeld
 refine goes_ Try.func56 (by kernel_rfl) rfl #[.int .i64 a1_0, .int .i64 2] (by rfl) rfl rfl (by (try simp only [List.map_toArray, List.map_cons, List.map_nil]); first | done | rfl) ?_
 with_reducible refine (sym_Bits.calls 70 a1_0 2 t1 _ A1.out).mono ?_
 rintro e w1 ⟨rfl, hb⟩
 refine ⟨_, rfl, ?_⟩
 replace HX := Aside0.mk (HX.out.below hb)
 clear hb
 refine hK.out _ _ HX.out.cells (fun hHeld => ?_)
 clear hK K
 refine nq_ 10 ?_
 refine oq_ 5 13 HT_ (fun K hK => ?_)
 clear hHeld
 refine goes_ Try.func56 (by kernel_rfl) rfl #[.int .i64 a1_1, .int .i64 16] (by rfl) rfl rfl (by (try simp only [List.map_toArray, List.map_cons, List.map_nil]); first | done | rfl) ?_
 with_reducible refine (sym_Bits.calls 70 a1_1 16 t2 _ A2.out).mono ?_
 rintro e w2 ⟨rfl, hb⟩
 refine ⟨_, rfl, ?_⟩
 replace HX := Aside0.mk (HX.out.below hb)
 clear hb
 refine hK.out _ _ HX.out.cells (fun hHeld => ?_)
 clear hK K
 refine nq_ 13 ?_
 refine pq_ 6 14 HT_ ?_
 refine oq_ 9 17 HT_ (fun K hK => ?_)
 clear hHeld
 refine goes_ Try.func56 (by kernel_rfl) rfl #[.int .i64 a1_2, .int .i64 6] (by rfl) rfl rfl (by (try simp only [List.map_toArray, List.map_cons, List.map_nil]); first | done | rfl) ?_
 with_reducible refine (sym_Bits.calls 70 a1_2 6 t3 _ A3.out).mono ?_
 rintro e w3 ⟨rfl, hb⟩
 refine ⟨_, rfl, ?_⟩
 replace HX := Aside0.mk (HX.out.below hb)
 clear hb
 refine hK.out _ _ HX.out.cells (fun hHeld => ?_)
 clear hK K
 refine nq_ 17 ?_
 refine pq_ 10 18 HT_ ?_
 refine oq_ 13 21 HT_ (fun K hK => ?_)
 clear hHeld
 refine goes_ Try.func57 (by kernel_rfl) rfl #[.agg #[.int .i64 a1_3, .int .i64 a1_4]] (by rfl) rfl rfl (by (try simp only [List.map_toArray, List.map_cons, List.map_nil]); first | done | rfl) ?_
 with_reducible refine (frame_item.calls 70 a1_3 a1_4 t4 _ A4.out).mono ?_
 rintro e w4 ⟨rfl, hb⟩
 refine ⟨_, rfl, ?_⟩
 replace HX := Aside0.mk (HX.out.below hb)
 clear hb
 refine hK.out _ _ HX.out.cells (fun hHeld => ?_)
 clear hK K
 refine nq_ 21 ?_
 refine pq_ 14 22 HT_ ?_
 refine oq_ 15 23 HT_ (fun K hK => ?_)
 clear hHeld
 refine goes_ Try.func55 (by kernel_rfl) rfl #[.pointer (some ⟨w.heap.size + 2, 0, none⟩), .string (((t1 ++ t2) ++ t3) ++ t4)] (by rfl) rfl rfl (by (try simp only [List.map_toArray, List.map_cons, List.map_nil]); first | done | rfl) ?_
 with_reducible refine (bld_WriteString (w.heap.size + 2) (w.heap.size + 2) [] (((t1 ++ t2) ++ t3) ++ t4) _ HX.out.bld (by rw [s5]; decide) HX.out.room).mono ?_
 rintro e w5 ⟨rfl, hA, hb⟩
 refine ⟨_, rfl, ?_⟩
 replace HX := Aside0.mk (HX.out.write hA hb)
 clear hA hb
 refine hK.out _ _ HX.out.cells (fun hHeld => ?_)
 clear hK K
 refine nq_ 23 ?_
 refine done_ (done_of HT_.out (by kernel_rfl)) ?_
 clear hHeld HT_ HW_
 have HX0 := HX.out
 rw [List.nil_append, HT.out] at HX0
 clear HX HT A1 A2 A3 A4 s1 s2 s3 s4 s12 s123 s5
 have HX := Aside0.mk HX0
 clear HX0
 obtain ⟨z0, z1, z2, z3, z4, z5⟩ := HX.out.cells
 go_wp2
 clear z0 z1 z2 z3 z4 z5
 go_loopg [27, 7] l1_5.length (fun gk v27 _ wr => ∃ i : Nat, v27 = .int .i64 i ∧ i ≤ l1_5.length ∧ l1_5.length - i ≤ gk ∧ Aside0 (TextIs w a1_0 a1_1 a1_2 a1_3 a1_4 (.slice A1_5 l1_5.length c1_5) (Lib.byteCells (frameBits a1_0 a1_1 a1_2 a1_3 a1_4 (l1_5.take i))) wr))
 case atStart => exact ⟨0, rfl, Nat.zero_le _, by omega, HX⟩
 case round =>
  clear HX
  obtain ⟨i, rfl, hi, hk, HX⟩ := hrel
  by_cases hlt : i < l1_5.length
  ·
   have hltz : (i : Int) < (l1_5.length : Int) := by omega
   obtain ⟨ad, e1, hx0, hx1⟩ := at_T26 HR1.out i (by omega) hltz
   cases e1
   have HB := HX.out.hb
   replace hx0 := (HB.cell (World.block_lt_of_cell? w _ hx0)).trans hx0
   replace hx1 := (HB.cell (World.block_lt_of_cell? w _ hx1)).trans hx1
   rw [Int.toNat_natCast] at hx0 hx1
   have hHX := HX.out
   clear HX HB
   have HX := Aside0.mk hHX
   clear hHX
   have hrd : rd_T26 l1_5 (i : Int) = l1_5[i] := by
    unfold rd_T26
    rw [Int.toNat_natCast, List.getD_eq_getElem?_getD, List.getElem?_eq_getElem hlt]
    rfl
   have HRD := Aside0.mk hrd
   clear hrd
   generalize hx : rd_T26 l1_5 (i : Int) = x at HRD hx0 hx1
   clear hx
   go_wp2_with fail
   refine (frame_item.calls 70 x.f0 x.f1 (ofL (frameItemL x)) _ (frame_item_eq 0 x.f0 x.f1)).mono ?_
   rintro e w6 ⟨rfl, hb⟩
   have HX1 := Aside0.mk ((HX.out.below (below_alloc (Below.refl _ _) _)).below hb)
   clear hb hx0 hx1
   go_wp2_with fail
   refine (bld_WriteString (w.heap.size + 2) (w.heap.size + 2) _ (ofL (frameItemL x)) _ HX1.out.bld (by rw [Lib.byteCells_length, frameBits_length, ofL_size, frameItemL_length, List.length_take]; omega) HX1.out.room).mono ?_
   rintro e w7 ⟨rfl, hA, hb7⟩
   have HX2 := Aside0.mk (HX1.out.write hA hb7)
   clear hA hb7
   go_wp2
   go_roundg (gk - 1)
   case measure => omega
   case rel =>
    refine ⟨i + 1, by go_num, by omega, by omega, ⟨?_⟩⟩
    have h1 := HX2.out
    rw [strCells_ofL, ← byteCells_append, frameBits_snoc a1_0 a1_1 a1_2 a1_3 a1_4 l1_5 i hlt x HRD.out] at h1
    exact h1
  ·
   have hall : l1_5.take i = l1_5 := List.take_of_length_le (by omega)
   have hz : ¬ (i : Int) < (l1_5.length : Int) := by omega
   rw [hall] at HX
   have hi2 : i = l1_5.length := by omega
   go_wp2_with fail
   refine (bld_String (w.heap.size + 2) (w.heap.size + 2) _ _ HX.out.bld HX.out.room).mono ?_
   rintro e w6 ⟨rfl, hb⟩
   have HB := Aside0.mk (HX.out.hb.trans (hb.mono (by omega)))
   clear hb HX
   go_wp2_with fail
   refine (crc_Wrap.calls 70 _ _ _ (crc_Wrap_eq 0 (frameBits a1_0 a1_1 a1_2 a1_3 a1_4 l1_5) (frameBits_bit _ _ _ _ _ _) (by rw [frameBits_length]; omega))).mono ?_
   rintro e w7 ⟨rfl, hb⟩
   have HB2 := Aside0.mk (below_then HB.out HB.out.size hb)
   clear hb
   go_wp2
   go_ret
   exact ⟨by rw [HF.out]; rfl, HB2.out⟩
def IsS96 (w0 W : World) (g : Nat) (f0 : ByteArray) : Prop := W.heap[g]? = some (.cells #[.string f0] 96 (0, 0)) ∧ w0.heap.size ≤ g
theorem IsS96.grown {w0 W : World} {g : Nat} {f0 : ByteArray} {W1 : World} {row : Option Nat} (h : IsS96 w0 W g f0) (hw : W.grownBy W1 row) (hne : some g ≠ row) : IsS96 w0 W1 g f0 := by
 obtain ⟨hb, hg⟩ := h
 exact ⟨blk_grown hb hw hne, hg⟩
theorem IsS96.kept {w0 W : World} {g : Nat} {f0 : ByteArray} {W1 : World} {S : Nat → Prop} (h : IsS96 w0 W g f0) (hk : Kept W W1 S) (hne : ¬ S g) : IsS96 w0 W1 g f0 := by
 obtain ⟨hb, hg⟩ := h
 exact ⟨blk_kept hb hk hne, hg⟩
theorem IsS96.below {w0 W : World} {g : Nat} {f0 : ByteArray} {W1 : World} (h : IsS96 w0 W g f0) (hw : Below W.heap.size W W1) : IsS96 w0 W1 g f0 := h.grown (grown_of_below hw none) (by simp)
theorem IsS96.alloc {w0 W : World} {g : Nat} {f0 : ByteArray} (h : IsS96 w0 W g f0) (o : Obj) : IsS96 w0 (W.alloc o) g f0 := h.below (below_alloc (Below.refl _ _) o)
theorem IsS96.drewN {w0 W : World} {g : Nat} {f0 : ByteArray} (h : IsS96 w0 W g f0) (m : Nat) : IsS96 w0 (W.drewN m) g f0 := h
theorem IsS96.drew {w0 W : World} {g : Nat} {f0 : ByteArray} (h : IsS96 w0 W g f0) : IsS96 w0 W.drew g f0 := h
theorem IsS96.at_ {w0 W : World} {g : Nat} {f0 : ByteArray} {w' : World} {m : Nat} (hq : W.drewN m = w') (h : IsS96 w0 W g f0) : IsS96 w0 w' g f0 := by subst hq; exact IsS96.drewN h m
theorem IsS96.apart {w0 W : World} {g : Nat} {f0 : ByteArray} {α : Type} {d : Kd α} {e : Nat} {base : Nat} {ok : Nat → Prop} {v : Value} {xs : List α} (h : IsS96 w0 W g f0) (ho : d.R e W base ok v xs) (ht : ∀ q, q ∈ e :: d.E → q ≠ 96) : d.R e W base (fun k => ok k ∧ k ≠ g) v xs := by
 obtain ⟨hb, hg⟩ := h
 exact Kd.R_types ho hb ht
theorem IsS96.own_ne {w0 W : World} {g : Nat} {f0 : ByteArray} {α : Type} {d : Kd α} {e : Nat} {base : Nat} {ok : Nat → Prop} {v : Value} {xs : List α} (h : IsS96 w0 W g f0) (ho : d.R e W base ok v xs) (ht : e ≠ 96) : some g ≠ v.ownBlock := by
 obtain ⟨hb, hg⟩ := h
 exact Kd.R_ne ho hb ht
theorem IsS96.lt {w0 W : World} {g : Nat} {f0 : ByteArray} (h : IsS96 w0 W g f0) : g < W.heap.size := by
 obtain ⟨hb, hg⟩ := h
 exact blk_lt hb
theorem IsS96.ge {w0 W : World} {g : Nat} {f0 : ByteArray} (h : IsS96 w0 W g f0) : w0.heap.size ≤ g := by
 obtain ⟨hb, hg⟩ := h
 exact hg
theorem IsS96.far {w0 W : World} {g : Nat} {f0 : ByteArray} {p : Addr} (h : IsS96 w0 W g f0) (hne : g ≠ p.block) (u : Value) : IsS96 w0 (W.setCell p u) g f0 := by
 obtain ⟨hb, hg⟩ := h
 exact ⟨blk_far hb hne u, hg⟩
theorem IsS96.set_0 {w0 W : World} {g : Nat} {f0 : ByteArray} (h : IsS96 w0 W g f0) (x : ByteArray) : IsS96 w0 (W.setCell ⟨g, 0, none⟩ (.string x)) g x := by
 obtain ⟨hb, hg⟩ := h
 exact ⟨by simpa using blk_set hb 0 (.string x), hg⟩
def numStep (n : Int) (c : UInt8) : Int := Go.bits .or .i64 (wrap64 (n * 2)) ((c.toNat : Int) - 48)
def frame_reader_next.f (s0_0 : ByteArray) (a1 : Int) : Option (Int × ByteArray) :=
 if 0 ≤ a1 ∧ a1 ≤ s0_0.size ∧ (s0_0.extract 0 a1.toNat).data.toList.all (fun c => decide (c.toNat < 128)) = true then some ((s0_0.extract 0 a1.toNat).data.toList.foldl numStep 0, s0_0.extract a1.toNat s0_0.size) else none
set_option maxHeartbeats 6400000 in
set_option maxRecDepth 100000 in
theorem frame_reader_next.calls (g : Nat) (s0_0 : ByteArray) (a1 : Int) (r1 : Int) (r2 : ByteArray) (w0 w : World) (hI : IsS96 w0 w g s0_0) (hB : Below w0.heap.size w0 w) (h : frame_reader_next.f s0_0 a1 = some (r1, r2)) :
  Calls Try.prog 67 #[.pointer (some ⟨g, 0, none⟩), .int .i64 a1] w fun e w' => e = .returned (.int .i64 r1) ∧ IsS96 w0 w' g r2 ∧ Below w0.heap.size w0 w' ∧ KeepBut w w' g none := by
 unfold frame_reader_next.f at h
 split at h
 case isFalse => exact absurd h (by simp)
 case isTrue hall =>
 simp only [Option.some.injEq, Prod.mk.injEq] at h
 obtain ⟨rfl, rfl⟩ := h
 obtain ⟨h0, h1, hasc⟩ := hall
 obtain ⟨HG, hge⟩ := hI
 have hgl : g < w.heap.size := blk_lt HG
 have hc0 : w.cell? ⟨g, 0, none⟩ = some (.string s0_0) := (blk_cell HG 0).trans rfl
 generalize hs : s0_0.extract 0 a1.toNat = s at hasc ⊢
 have hk0 : (w.iter s 0).heap[w.heap.size]? = some (.stringIter s 0) := World.iter_heap w s 0
 have hb0 : Below w.heap.size w (w.iter s 0) := (Below.refl _ w).alloc (by simp) _
 go_enter Try.func67, Try.ntmps67
 go_wp2
 go_loopw [5, 7] (fun s5 _ wr => ∃ pos : Nat, pos ≤ s.size ∧ wr.heap[w.heap.size]? = some (.stringIter s pos) ∧ s5 = .int .i64 ((s.data.toList.take pos).foldl numStep 0) ∧ Below w.heap.size w wr)
  (fun _ _ wr => s.size - wr.iterPos (w.heap.size))
 case atStart => exact ⟨0, Nat.zero_le _, hk0, rfl, hb0⟩
 case round =>
  obtain ⟨pos, hps, hk, rfl, hnx⟩ := hrel
  clear hk0 hb0 hc0
  by_cases hp : pos < s.size
  ·
   have h128 : (s[pos]'hp).toNat < 128 := byte_all hasc pos hp
   have hnext : ∀ ty, (Instr.next (.pointer (some ⟨w.heap.size, 0, none⟩)) true ty).run Try.prog wr = _ := fun ty => Lib.run_next_ascii_at wr (w.heap.size) s pos ty hk hp h128
   have hk1 := Lib.iterAt_heap wr (w.heap.size) s pos (pos + 1) hk
   have hnx1 : Below w.heap.size w (wr.iterAt (w.heap.size) s (pos + 1)) := Lib.below_iterAt hnx (by omega) s (pos + 1)
   have hmu : wr.iterPos (w.heap.size) = pos := by simp [World.iterPos, hk]
   generalize wr.iterAt (w.heap.size) s (pos + 1) = W1 at hnext hk1 hnx1
   go_wp2
   go_roundw
   case rel =>
    refine ⟨pos + 1, by omega, hk1, ?_, hnx1⟩
    rw [fold_snoc numStep _ _ pos (show pos < s.data.toList.length from hp), byte_at s pos hp]
    rfl
   case measure =>
    have hmu2 : W1.iterPos (w.heap.size) = pos + 1 := by simp [World.iterPos, hk1]
    rw [hmu, hmu2]
    omega
  ·
   have hnext : ∀ ty, (Instr.next (.pointer (some ⟨w.heap.size, 0, none⟩)) true ty).run Try.prog wr = _ := fun ty => Lib.run_next_end_at wr (w.heap.size) s pos ty hk hp
   have hall2 : s.data.toList.take pos = s.data.toList := List.take_of_length_le (by show s.size ≤ pos; omega)
   have HGW : wr.heap[g]? = some (.cells #[.string s0_0] 96 (0, 0)) := (hnx.block g hgl).trans HG
   have hcw : wr.cell? ⟨g, 0, none⟩ = some (.string s0_0) := (blk_cell HGW 0).trans rfl
   have hfw := blk_frozen HGW 0
   have HI : IsS96 w0 wr g s0_0 := ⟨HGW, hge⟩
   have HK : KeepBut w wr g none := KeepBut.of_below hnx g none
   have HBw : Below w0.heap.size w0 wr := below_then hB hB.size hnx
   go_wp2
   go_ret
   exact ⟨by rw [hall2]; rfl, HI.set_0 _, below_set HBw hge, HK.set_ 0 _⟩
def frame_reader_item.f (s0_0 : ByteArray) : Option (Int × Int × ByteArray) := (frame_reader_next.f s0_0 2).bind fun btAh => ((frame_reader_next.f btAh.2 8).bind fun btAi => (some (btAh.1, btAi.1, btAi.2)))
set_option maxHeartbeats 8000000 in
set_option maxRecDepth 100000 in
theorem frame_reader_item.calls (g : Nat) (s0_0 : ByteArray) (r1 : Int) (r2 : Int) (r3 : ByteArray) (w0 w : World) (hI : IsS96 w0 w g s0_0) (hB : Below w0.heap.size w0 w) (h : frame_reader_item.f s0_0 = some (r1, r2, r3)) :
  Calls Try.prog 68 #[.pointer (some ⟨g, 0, none⟩)] w fun e w' => e = .returned (.agg #[.int .i64 r1, .int .i64 r2]) ∧ IsS96 w0 w' g r3 ∧ Below w0.heap.size w0 w' ∧ KeepBut w w' g none := by
 have hu26 := Try.underlying26
 have HI0 := Aside0.mk hI
 have HK := Aside0.mk (KeepBut.refl w g none)
 have HL := Aside0.mk hB.size
 clear hI
 have HW0 := Aside0.mk hB.size
 have HB := Aside0.mk hB
 clear hB
 have H : ((frame_reader_next.f s0_0 2).bind fun btAh => ((frame_reader_next.f btAh.2 8).bind fun btAi => (some (btAh.1, btAi.1, btAi.2)))) = some (r1, r2, r3) := h
 clear h
 replace H := Option.bind_eq_some_iff.mp H
 obtain ⟨⟨tAh, tAk⟩, A20, H⟩ := H
 try dsimp only at H
 have A2 := Aside0.mk A20
 clear A20
 replace H := Option.bind_eq_some_iff.mp H
 obtain ⟨⟨tAi, tAm⟩, A30, H⟩ := H
 try dsimp only at H
 have A3 := Aside0.mk A30
 clear A30
 simp only [Option.some.injEq, Prod.mk.injEq] at H
 obtain ⟨rfl, rfl, rfl⟩ := H
 go_enter Try.func68, Try.ntmps68
 go_wp2_with (first | ((with_reducible refine gate_dst (N := 2) rfl ?_); refine be_ 2 #[.int .i64 0, .int .i64 0] 26 ?_; intro gbAb hg w4 hbox hb; have n0_ := Aside0.mk (IsS96.below (by repeat (first | (with_reducible first | exact HI0.out | apply IsS96.alloc | apply IsS96.drewN | apply IsS96.drew | apply IsS96.set_0) | exact HI0.out)) hb); have n1_ := Aside0.mk (KeepBut.trans (by repeat (first | (with_reducible first | exact HK.out | apply KeepBut.set_ | apply keep_drewN | apply keep_drew | apply keep_alloc) | exact HK.out)) (KeepBut.of_below hb g none) (.inl rfl)); have n2_ := Aside0.mk (below_step (by repeat (first | (with_reducible first | exact HB.out | apply below_alloc | apply pw_below_drewN | apply below_drew1 | refine below_set ?_ (IsS96.ge HI0.out)) | exact HB.out)) hb); have n3_ := Aside0.mk (hbox); have n4_ := Aside0.mk ((by rw [hg]; exact (keep_size (w := w) (g := g) (row := none) (by repeat (first | (with_reducible first | exact HK.out | apply KeepBut.set_ | apply keep_drewN | apply keep_drew | apply keep_alloc) | exact HK.out))) : w.heap.size ≤ gbAb)); have n5_ := Aside0.mk ((Nat.le_trans HW0.out (by rw [hg]; exact (keep_size (w := w) (g := g) (row := none) (by repeat (first | (with_reducible first | exact HK.out | apply KeepBut.set_ | apply keep_drewN | apply keep_drew | apply keep_alloc) | exact HK.out))) : w.heap.size ≤ gbAb) : w0.heap.size ≤ gbAb)); have n6_ := Aside0.mk ((by rw [hg]; exact Nat.ne_of_lt (IsS96.lt (show IsS96 w0 _ g s0_0 from by repeat (first | (with_reducible first | exact HI0.out | apply IsS96.alloc | apply IsS96.drewN | apply IsS96.drew | apply IsS96.set_0) | exact HI0.out))) : g ≠ gbAb)); have n7_ := Aside0.mk ((by rw [hg]; exact Nat.ne_of_gt (IsS96.lt (show IsS96 w0 _ g s0_0 from by repeat (first | (with_reducible first | exact HI0.out | apply IsS96.alloc | apply IsS96.drewN | apply IsS96.drew | apply IsS96.set_0) | exact HI0.out))) : gbAb ≠ g)); clear HI0; clear HK; clear HB; have HI0 := n0_; have HK := n1_; have HB := n2_; have BKAb := n3_; have GWAb := n4_; have GEAb := n5_; have NB0_Ab := n6_; have NBAb_0 := n7_; clear n0_ n1_ n2_ n3_ n4_ n5_ n6_ n7_; clear hb hbox hg) | ((with_reducible refine gate_callee (f := 67) rfl ?_); refine gL_ 5 Try.func67 #[.pointer (some ⟨g, 0, none⟩), .int .i64 2] ?_; (with_reducible refine (frame_reader_next.calls g s0_0 2 tAh tAk w0 _ ?side1 ?side2 A2.out).mono ?_); (case side1 => repeat (first | (with_reducible first | exact HI0.out | apply IsS96.alloc | apply IsS96.drewN | apply IsS96.drew | apply IsS96.set_0 | refine IsS96.far ?_ NB0_Ab.out _) | exact HI0.out)); (case side2 => repeat (first | (with_reducible first | exact HB.out | apply below_alloc | apply pw_below_drewN | apply below_drew1 | refine below_set ?_ (IsS96.ge HI0.out) | refine below_set ?_ GEAb.out) | exact HB.out)); rintro e w5 ⟨rfl, hi, hb, hk⟩; refine ⟨_, rfl, ?_⟩; have n0_ := Aside0.mk (KeepBut.blk hk (g' := gbAb) (o := .cells #[.int .i64 0, .int .i64 0] 26 (0, 0)) (pB_ BKAb.out) NBAb_0.out (by simp)); have n1_ := Aside0.mk (KeepBut.trans (by repeat (first | (with_reducible first | exact HK.out | apply KeepBut.set_ | apply keep_drewN | apply keep_drew | apply keep_alloc | refine keep_far ?_ GWAb.out _) | exact HK.out)) hk (.inl rfl)); have n2_ := Aside0.mk (hb); have n3_ := Aside0.mk (hi); clear BKAb; clear HK; clear HB; clear HI0; have BKAb := n0_; have HK := n1_; have HB := n2_; have HI0 := n3_; clear n0_ n1_ n2_ n3_; (try clear hb); (try clear hb2); (try clear hk); (try clear hi)) | ((with_reducible refine gate_callee (f := 67) rfl ?_); refine gL_ 8 Try.func67 #[.pointer (some ⟨g, 0, none⟩), .int .i64 8] ?_; (with_reducible refine (frame_reader_next.calls g tAk 8 tAi tAm w0 _ ?side1 ?side2 A3.out).mono ?_); (case side1 => repeat (first | (with_reducible first | exact HI0.out | apply IsS96.alloc | apply IsS96.drewN | apply IsS96.drew | apply IsS96.set_0 | refine IsS96.far ?_ NB0_Ab.out _) | exact HI0.out)); (case side2 => repeat (first | (with_reducible first | exact HB.out | apply below_alloc | apply pw_below_drewN | apply below_drew1 | refine below_set ?_ (IsS96.ge HI0.out) | refine below_set ?_ GEAb.out) | exact HB.out)); rintro e w6 ⟨rfl, hi, hb, hk⟩; refine ⟨_, rfl, ?_⟩; have n0_ := Aside0.mk (KeepBut.blk hk (g' := gbAb) (o := .cells #[.int .i64 0, .int .i64 0] 26 (0, 0)) (pB_ BKAb.out) NBAb_0.out (by simp)); have n1_ := Aside0.mk (KeepBut.trans (by repeat (first | (with_reducible first | exact HK.out | apply KeepBut.set_ | apply keep_drewN | apply keep_drew | apply keep_alloc | refine keep_far ?_ GWAb.out _) | exact HK.out)) hk (.inl rfl)); have n2_ := Aside0.mk (hb); have n3_ := Aside0.mk (hi); clear BKAb; clear HK; clear HB; clear HI0; have BKAb := n0_; have HK := n1_; have HB := n2_; have HI0 := n3_; clear n0_ n1_ n2_ n3_; (try clear hb); (try clear hb2); (try clear hk); (try clear hi); have hnb7 := NBAb_0.out; have hnc7 := NB0_Ab.out; have hcz8_0 : w6.cell? ⟨gbAb, 0, none⟩ = some (.int .i64 0) := bc_ BKAb 0; have hcz8_1 : w6.cell? ⟨gbAb, 1, none⟩ = some (.int .i64 0) := bc_ BKAb 1; have hfz8_0 := blk_frozen BKAb.out 0; have hfz8_1 := blk_frozen BKAb.out 1))
 refine bodyPost_ret (results_cell_row rfl _ _ gbAb 26 #[.int .i64 tAh, .int .i64 tAi] (0, 0) _ rfl (by (with_reducible repeat (first | refine blk_drewN ?_ _ | refine blk_drew ?_ | refine blk_alloc ?_ _)); refine blk_put (cs := #[.int .i64 tAh, .int .i64 0]) ?_ 1 _ rfl; (with_reducible repeat (first | refine blk_drewN ?_ _ | refine blk_drew ?_ | refine blk_alloc ?_ _)); refine blk_put (cs := #[.int .i64 0, .int .i64 0]) ?_ 0 _ rfl; (with_reducible repeat (first | refine blk_drewN ?_ _ | refine blk_drew ?_ | refine blk_alloc ?_ _)); exact BKAb.out) Try.underlying26 rfl (by kernel_rfl)) rfl ?_
 exact ⟨by first | rfl | (simp [errW_none, errW_some] <;> rfl) | (simp [*, errW_none, errW_some] <;> rfl), by repeat (first | (with_reducible first | exact HI0.out | apply IsS96.alloc | apply IsS96.drewN | apply IsS96.drew | apply IsS96.set_0 | refine IsS96.far ?_ NB0_Ab.out _) | exact HI0.out), by repeat (first | (with_reducible first | exact HB.out | apply below_alloc | apply pw_below_drewN | apply below_drew1 | refine below_set ?_ (IsS96.ge HI0.out) | refine below_set ?_ GEAb.out) | exact HB.out), by repeat (first | (with_reducible first | exact HK.out | apply KeepBut.set_ | apply keep_drewN | apply keep_drew | apply keep_alloc | refine keep_far ?_ GWAb.out _) | exact HK.out)⟩
def frame_Read.tail (a0_0 a0_1 a0_2 a0_3 a0_4 : Int) (l0_5 : List Int) (K R S P V : Int) (acc : List S26) : Option (Int × Int × Int × Int × Int × List S26 × Int) := (frame_Check.f a0_0 a0_1 a0_2 a0_3 a0_4 l0_5 K R S P V acc).bind fun e => if e = 0 then (api_Item_69.f acc).bind fun l => some (K, R, S, P, V, l, 0) else some (0, 0, 0, 0, 0, ([] : List S26), e)
def frame_Read.l0 (a0_0 a0_1 a0_2 a0_3 a0_4 : Int) (l0_5 : List Int) (K R S P V : Int) : Nat → ByteArray → List S26 → Option (Int × Int × Int × Int × Int × List S26 × Int)
 | 0, _, _ => none
 | k + 1, s, acc => if s.size = 0 then frame_Read.tail a0_0 a0_1 a0_2 a0_3 a0_4 l0_5 K R S P V acc else (frame_reader_item.f s).bind fun t => if acc.length < 8796093022208 then frame_Read.l0 a0_0 a0_1 a0_2 a0_3 a0_4 l0_5 K R S P V k t.2.2 (acc ++ [⟨t.1, t.2.1⟩]) else none
def frame_Read.f (a0_0 a0_1 a0_2 a0_3 a0_4 : Int) (l0_5 : List Int) (a1 : ByteArray) : Option (Int × Int × Int × Int × Int × List S26 × Int) := (crc_Open.f 100 a1).bind fun t => if t.2 = 0 then (if (t.1.size : Int) < 34 then some (0, 0, 0, 0, 0, ([] : List S26), 3) else (frame_reader_next.f t.1 2).bind fun K => (frame_reader_next.f K.2 16).bind fun R => (frame_reader_next.f R.2 6).bind fun S => (frame_reader_item.f S.2).bind fun I => (frame_echoes.f a0_0 a0_1 a0_2 a0_3 a0_4 l0_5 K.1 S.1).bind fun E => if (I.2.2.size : Int) = wrap64 (10 * E) then frame_Read.l0 a0_0 a0_1 a0_2 a0_3 a0_4 l0_5 K.1 R.1 S.1 I.1 I.2.1 (a1.size + 1) I.2.2 [] else some (0, 0, 0, 0, 0, ([] : List S26), 2)) else some (0, 0, 0, 0, 0, ([] : List S26), t.2)
theorem fr_empty {s : ByteArray} (h : s.size = 0) : s = (⟨#[]⟩ : ByteArray) := by
 obtain ⟨d⟩ := s
 have h2 : d = #[] := Array.size_eq_zero_iff.1 h
 rw [h2]
theorem fr_size {s : ByteArray} (h : s.toList = []) : s.size = 0 := by
 rw [ByteArray.toList_eq] at h
 have h2 := congrArg List.length h
 exact h2
def frame_Read.T11 : Bool × List (List Nat × List Nat) := (true, [([], []), ([0], [0]), ([], []), ([2], [2]), ([3], [3]), ([1, 4, 3], [1, 4]), ([0, 1, 2, 3, 4, 5], []), ([6, 5, 5, 0, 1, 2, 3, 4, 5], [5, 6])])
def frame_Read.B11 : List Nat := [0, 1, 0, 4, 12, 31, 63, 127]
def frame_Read.T8 : Bool × List (List Nat × List Nat) := (true, [([], []), ([0], [0]), ([1], [1]), ([2], [2]), ([3], [3]), ([], []), ([], []), ([6], [6]), ([], []), ([8], [8]), ([5, 7, 9], [5, 7, 9]), ([10], [10]), ([4, 11], [4, 11])])
def frame_Read.B8 : List Nat := [0, 1, 3, 7, 15, 0, 0, 64, 0, 256, 992, 2016, 4095]
theorem frame_Read.tab8 : rtab .any (opsOf Try.f35 8) = frame_Read.T8 := by kernel_rfl
theorem frame_Read.bits8 : waitsOk frame_Read.T8.2 frame_Read.B8 = true := by kernel_rfl
theorem frame_Read.tab11 : rtab .any (opsOf Try.f35 11) = frame_Read.T11 := by kernel_rfl
theorem frame_Read.bits11 : waitsOk frame_Read.T11.2 frame_Read.B11 = true := by kernel_rfl
theorem fr_put6 {W : World} {g : Nat} {t : TypeId} {a0 a1 a2 a3 a4 a5 : Value} (h : W.heap[g]? = some (.cells #[a0, a1, a2, a3, a4, a5] t (0, 0))) (b0 b1 b2 b3 b4 b5 : Value) : ((((((W.setCell ⟨g, 0, none⟩ b0).setCell ⟨g, 1, none⟩ b1).setCell ⟨g, 2, none⟩ b2).setCell ⟨g, 3, none⟩ b3).setCell ⟨g, 4, none⟩ b4).setCell ⟨g, 5, none⟩ b5).heap[g]? = some (.cells #[b0, b1, b2, b3, b4, b5] t (0, 0)) := by
 refine blk_put (cs := #[b0, b1, b2, b3, b4, a5]) ?_ 5 _ rfl
 refine blk_put (cs := #[b0, b1, b2, b3, a4, a5]) ?_ 4 _ rfl
 refine blk_put (cs := #[b0, b1, b2, a3, a4, a5]) ?_ 3 _ rfl
 refine blk_put (cs := #[b0, b1, a2, a3, a4, a5]) ?_ 2 _ rfl
 refine blk_put (cs := #[b0, a1, a2, a3, a4, a5]) ?_ 1 _ rfl
 refine blk_put (cs := #[a0, a1, a2, a3, a4, a5]) ?_ 0 _ rfl
 exact h
set_option maxHeartbeats 16000000 in
set_option maxRecDepth 100000 in
theorem frame_Read.calls (a0_0 : Int) (a0_1 : Int) (a0_2 : Int) (a0_3 : Int) (a0_4 : Int) (A0_5 : Option Addr) (c0_5 : Nat) (l0_5 : List Int) (a1 : ByteArray) (r1 : Int) (r2 : Int) (r3 : Int) (r4 : Int) (r5 : Int) (r6 : List (S26)) (r7 : Int) (w : World) (hr0_5 : Kd.C (Kd.int .i64) w A0_5 l0_5.length l0_5) (hc0_5 : l0_5.length ≤ c0_5) (h : frame_Read.f a0_0 a0_1 a0_2 a0_3 a0_4 l0_5 a1 = some (r1, r2, r3, r4, r5, r6, r7)) :
  Calls Try.prog 35 #[.agg #[.int .i64 a0_0, .int .i64 a0_1, .int .i64 a0_2, .int .i64 a0_3, .int .i64 a0_4, .slice A0_5 l0_5.length c0_5], .string a1] w fun e w' => ∃ v5_ : Value, e = .returned (.tuple #[.agg #[.int .i64 r1, .int .i64 r2, .int .i64 r3, .int .i64 r4, .int .i64 r5, v5_], .int .i64 r7]) ∧ Kd.R k26 26 w' w.heap.size (fun _ => True) v5_ r6 ∧ Below w.heap.size w w' := by
 have hu24 := Try.underlying24
 have hu29 := Try.underlying29
 have HR0_5 := Aside0.mk hr0_5
 have HC0_5 := Aside0.mk hc0_5
 clear hr0_5 hc0_5
 have HB := Aside0.mk (Below.refl w.heap.size w)
 unfold frame_Read.f at h
 obtain ⟨⟨b, e0⟩, A30, H⟩ := Option.bind_eq_some_iff.mp h
 clear h
 have A3 := Aside0.mk A30
 clear A30
 try dsimp only at H
 by_cases c4 : e0 = 0
 rotate_left
 ·
  rw [if_neg c4] at H
  have c4b1 : (e0 != 0) = true := bne_iff_ne.mpr c4
  simp only [Option.some.injEq, Prod.mk.injEq] at H
  obtain ⟨rfl, rfl, rfl, rfl, rfl, rfl, rfl⟩ := H
  go_enter Try.func35, Try.ntmps35
  go_wp2_with (first | ((with_reducible refine gate_dst (N := 2) rfl ?_); refine be_ 2 #[.int .i64 a0_0, .int .i64 a0_1, .int .i64 a0_2, .int .i64 a0_3, .int .i64 a0_4, .slice A0_5 l0_5.length c0_5] 24 ?_; intro gc hg w2 hbox hb; have BC := Aside0.mk hbox; have GC := Aside0.mk ((by rw [hg]; exact (below_size (pH_ HB.out)) : w.heap.size ≤ gc)); replace HB := bs_ HB hb; clear hb hbox hg) | ((with_reducible refine gate_dst (N := 4) rfl ?_); refine be_ 4 #[.int .i64 0, .int .i64 0, .int .i64 0, .int .i64 0, .int .i64 0, .slice none 0 0] 29 ?_; intro gr hg w3 hbox hb; have BR := Aside0.mk hbox; have GR := Aside0.mk ((by rw [hg]; exact (below_size (pH_ HB.out)) : w.heap.size ≤ gr)); have Ncr := Aside0.mk (ltB_ hg BC.out); replace BC := bb_ BC hb; replace HB := bs_ HB hb; clear hb hbox hg) | ((with_reducible refine gate_callee (f := 66) rfl ?_); refine gL_ 12 Try.func66 #[.string a1] ?_; (with_reducible refine (crc_Open.calls 100 a1 b e0 _ A3.out).mono ?_); rintro e w4 ⟨rfl, hb⟩; refine ⟨_, rfl, ?_⟩; replace BC := bb_ BC hb; replace BR := bb_ BR hb; replace HB := bs_ HB hb; clear hb; have hnb1 := Ncr.out; have hnb2 := Ncr.out.symm; obtain ⟨hcz1_0, hcz1_1, hcz1_2, hcz1_3, hcz1_4, hcz1_5⟩ := c6_ BR; obtain ⟨hfz1_0, hfz1_1, hfz1_2, hfz1_3, hfz1_4, hfz1_5⟩ := f6_ BR))
  refine bodyPost_ret (results_ct rfl _ _ gr 29 #[.int .i64 0, .int .i64 0, .int .i64 0, .int .i64 0, .int .i64 0, .slice none 0 0] (0, 0) _ rfl (by (with_reducible repeat (first | refine blk_drewN ?_ _ | refine blk_drew ?_ | refine blk_alloc ?_ _)); refine fr_put6 (pB_ BR.out) _ _ _ _ _ _) Try.underlying29 rfl (by kernel_rfl)) rfl ?_
  exact ⟨_, by first | rfl | (simp [errW_none, errW_some] <;> rfl) | (simp [*, errW_none, errW_some] <;> rfl), Kd.R_nil _ _ _ _ _, pH_ HB.out⟩
 rw [if_pos c4] at H
 have c4b1 : (e0 != 0) = false := bne_eq_false_iff_eq.mpr c4
 subst c4
 by_cases c5 : (b.size : Int) < 34
 ·
  rw [if_pos c5] at H
  have c5b0 : decide ((b.size : Int) < 34) = true := decide_eq_true c5
  have c5b1 : decide (b.size < 34) = true := decide_eq_true (by omega)
  clear c5
  simp only [Option.some.injEq, Prod.mk.injEq] at H
  obtain ⟨rfl, rfl, rfl, rfl, rfl, rfl, rfl⟩ := H
  go_enter Try.func35, Try.ntmps35
  go_wp2_with (first | ((with_reducible refine gate_dst (N := 2) rfl ?_); refine be_ 2 #[.int .i64 a0_0, .int .i64 a0_1, .int .i64 a0_2, .int .i64 a0_3, .int .i64 a0_4, .slice A0_5 l0_5.length c0_5] 24 ?_; intro gc hg w2 hbox hb; have BC := Aside0.mk hbox; have GC := Aside0.mk ((by rw [hg]; exact (below_size (pH_ HB.out)) : w.heap.size ≤ gc)); replace HB := bs_ HB hb; clear hb hbox hg) | ((with_reducible refine gate_dst (N := 4) rfl ?_); refine be_ 4 #[.int .i64 0, .int .i64 0, .int .i64 0, .int .i64 0, .int .i64 0, .slice none 0 0] 29 ?_; intro gr hg w3 hbox hb; have BR := Aside0.mk hbox; have GR := Aside0.mk ((by rw [hg]; exact (below_size (pH_ HB.out)) : w.heap.size ≤ gr)); have Ncr := Aside0.mk (ltB_ hg BC.out); replace BC := bb_ BC hb; replace HB := bs_ HB hb; clear hb hbox hg) | ((with_reducible refine gate_callee (f := 66) rfl ?_); refine gL_ 12 Try.func66 #[.string a1] ?_; (with_reducible refine (crc_Open.calls 100 a1 b 0 _ A3.out).mono ?_); rintro e w4 ⟨rfl, hb⟩; refine ⟨_, rfl, ?_⟩; replace BC := bb_ BC hb; replace BR := bb_ BR hb; replace HB := bs_ HB hb; clear hb; have hnb1 := Ncr.out; have hnb2 := Ncr.out.symm; obtain ⟨hcz1_0, hcz1_1, hcz1_2, hcz1_3, hcz1_4, hcz1_5⟩ := c6_ BR; obtain ⟨hfz1_0, hfz1_1, hfz1_2, hfz1_3, hfz1_4, hfz1_5⟩ := f6_ BR))
  refine bodyPost_ret (results_ct rfl _ _ gr 29 #[.int .i64 0, .int .i64 0, .int .i64 0, .int .i64 0, .int .i64 0, .slice none 0 0] (0, 0) _ rfl (by (with_reducible repeat (first | refine blk_drewN ?_ _ | refine blk_drew ?_ | refine blk_alloc ?_ _)); refine fr_put6 (pB_ BR.out) _ _ _ _ _ _) Try.underlying29 rfl (by kernel_rfl)) rfl ?_
  exact ⟨_, by first | rfl | (simp [errW_none, errW_some] <;> rfl) | (simp [*, errW_none, errW_some] <;> rfl), Kd.R_nil _ _ _ _ _, pH_ HB.out⟩
 rw [if_neg c5] at H
 have c5b0 : decide ((b.size : Int) < 34) = false := decide_eq_false c5
 have c5b1 : decide (b.size < 34) = false := decide_eq_false (by omega)
 clear c5
 obtain ⟨⟨K, s1⟩, A60, H⟩ := Option.bind_eq_some_iff.mp H
 try dsimp only at A60
 try dsimp only at H
 have A6 := Aside0.mk A60
 clear A60
 obtain ⟨⟨R, s2⟩, A70, H⟩ := Option.bind_eq_some_iff.mp H
 try dsimp only at A70
 try dsimp only at H
 have A7 := Aside0.mk A70
 clear A70
 obtain ⟨⟨S, s3⟩, A80, H⟩ := Option.bind_eq_some_iff.mp H
 try dsimp only at A80
 try dsimp only at H
 have A8 := Aside0.mk A80
 clear A80
 obtain ⟨⟨P, V, s4⟩, A90, H⟩ := Option.bind_eq_some_iff.mp H
 try dsimp only at A90
 try dsimp only at H
 have A9 := Aside0.mk A90
 clear A90
 obtain ⟨E, A100, H⟩ := Option.bind_eq_some_iff.mp H
 try dsimp only at A100
 try dsimp only at H
 have A10 := Aside0.mk A100
 clear A100
 go_enter Try.func35, Try.ntmps35
 try go_wp2_with (first | ((with_reducible refine gate_dst (N := 2) rfl ?_); refine be_ 2 #[.int .i64 a0_0, .int .i64 a0_1, .int .i64 a0_2, .int .i64 a0_3, .int .i64 a0_4, .slice A0_5 l0_5.length c0_5] 24 ?_; intro gc hg w2 hbox hb; have BC := Aside0.mk hbox; have GC := Aside0.mk ((by rw [hg]; exact (below_size (pH_ HB.out)) : w.heap.size ≤ gc)); replace HB := bs_ HB hb; clear hb hbox hg) | ((with_reducible refine gate_dst (N := 4) rfl ?_); refine be_ 4 #[.int .i64 0, .int .i64 0, .int .i64 0, .int .i64 0, .int .i64 0, .slice none 0 0] 29 ?_; intro gr hg w3 hbox hb; have BR := Aside0.mk hbox; have GR := Aside0.mk ((by rw [hg]; exact (below_size (pH_ HB.out)) : w.heap.size ≤ gr)); have Ncr := Aside0.mk (ltB_ hg BC.out); replace BC := bb_ BC hb; replace HB := bs_ HB hb; clear hb hbox hg) | ((with_reducible refine gate_callee (f := 66) rfl ?_); refine gL_ 12 Try.func66 #[.string a1] ?_; (with_reducible refine (crc_Open.calls 100 a1 b 0 _ A3.out).mono ?_); rintro e w4 ⟨rfl, hb⟩; refine ⟨_, rfl, ?_⟩; replace BC := bb_ BC hb; replace BR := bb_ BR hb; replace HB := bs_ HB hb; clear hb; have hnb1 := Ncr.out; have hnb2 := Ncr.out.symm) | ((with_reducible refine gate_dst (N := 25) rfl ?_); refine be_ 25 #[.string b] 96 ?_; intro gs hg w5 hbox hb; have HI := Aside0.mk (show IsS96 w w5 gs b from ⟨hbox, by rw [hg]; exact (below_size (pH_ HB.out))⟩); have Ncs := Aside0.mk (ltB_ hg BC.out); have Nrs := Aside0.mk (ltB_ hg BR.out); replace BC := bb_ BC hb; replace BR := bb_ BR hb; replace HB := bs_ HB hb; clear hb hbox hg) | ((with_reducible refine gate_callee (f := 67) rfl ?_); refine gL_ 27 Try.func67 #[.pointer (some ⟨gs, 0, none⟩), .int .i64 2] ?_; (with_reducible refine (frame_reader_next.calls gs b 2 K s1 w _ HI.out HB.out A6.out).mono ?_); rintro e w6 ⟨rfl, hi, hb, hk⟩; refine ⟨_, rfl, ?_⟩; replace BC := Aside0.mk (KeepBut.blk hk BC.out Ncs.out (by simp)); replace BR := Aside0.mk (KeepBut.blk hk BR.out Nrs.out (by simp)); replace HI := Aside0.mk hi; replace HB := Aside0.mk hb; clear hi hb hk) | ((with_reducible refine gate_callee (f := 67) rfl ?_); refine gL_ 29 Try.func67 #[.pointer (some ⟨gs, 0, none⟩), .int .i64 16] ?_; (with_reducible refine (frame_reader_next.calls gs s1 16 R s2 w _ HI.out HB.out A7.out).mono ?_); rintro e w7 ⟨rfl, hi, hb, hk⟩; refine ⟨_, rfl, ?_⟩; replace BC := Aside0.mk (KeepBut.blk hk BC.out Ncs.out (by simp)); replace BR := Aside0.mk (KeepBut.blk hk BR.out Nrs.out (by simp)); replace HI := Aside0.mk hi; replace HB := Aside0.mk hb; clear hi hb hk) | ((with_reducible refine gate_callee (f := 67) rfl ?_); refine gL_ 31 Try.func67 #[.pointer (some ⟨gs, 0, none⟩), .int .i64 6] ?_; (with_reducible refine (frame_reader_next.calls gs s2 6 S s3 w _ HI.out HB.out A8.out).mono ?_); rintro e w8 ⟨rfl, hi, hb, hk⟩; refine ⟨_, rfl, ?_⟩; replace BC := Aside0.mk (KeepBut.blk hk BC.out Ncs.out (by simp)); replace BR := Aside0.mk (KeepBut.blk hk BR.out Nrs.out (by simp)); replace HI := Aside0.mk hi; replace HB := Aside0.mk hb; clear hi hb hk) | ((with_reducible refine gate_callee (f := 68) rfl ?_); refine gL_ 33 Try.func68 #[.pointer (some ⟨gs, 0, none⟩)] ?_; (with_reducible refine (frame_reader_item.calls gs s3 P V s4 w _ HI.out HB.out A9.out).mono ?_); rintro e w9 ⟨rfl, hi, hb, hk⟩; refine ⟨_, rfl, ?_⟩; replace BC := Aside0.mk (KeepBut.blk hk BC.out Ncs.out (by simp)); replace BR := Aside0.mk (KeepBut.blk hk BR.out Nrs.out (by simp)); replace HI := Aside0.mk hi; replace HB := Aside0.mk hb; clear hi hb hk) | ((with_reducible refine gate_dst (N := 9) rfl ?_); refine be_ 9 #[.int .i64 0, .int .i64 0, .int .i64 0, .int .i64 0, .int .i64 0, .slice none 0 0] 29 ?_; intro gf hg w10 hbox hb; have BF := Aside0.mk hbox; have GF := Aside0.mk ((by rw [hg]; exact (below_size (pH_ HB.out)) : w.heap.size ≤ gf)); have Ncf := Aside0.mk (ltB_ hg BC.out); have Nrf := Aside0.mk (ltB_ hg BR.out); have Nsf := Aside0.mk (ltB_ hg HI.out.1); replace BC := bb_ BC hb; replace BR := bb_ BR hb; replace HI := Aside0.mk (show IsS96 w w10 gs s4 from ⟨blk_below (pB_ HI.out.1) hb, HI.out.2⟩); replace HB := bs_ HB hb; clear hb hbox hg; have hnb3 := Ncf.out; have hnb4 := Ncf.out.symm; have hnb5 := Nsf.out; have hnb6 := Nsf.out.symm; obtain ⟨hcz2_0, hcz2_1, hcz2_2, hcz2_3, hcz2_4, hcz2_5⟩ := c6_ BC; obtain ⟨hcz3_0, hcz3_1, hcz3_2, hcz3_3, hcz3_4, hcz3_5⟩ := c6_ BF; obtain ⟨hfz3_0, hfz3_1, hfz3_2, hfz3_3, hfz3_4, hfz3_5⟩ := f6_ BF; have hcs : w10.cell? ⟨gs, 0, none⟩ = some (.string s4) := (blk_cell HI.out.1 0).trans rfl))
 replace BC := Aside0.mk (show ((((((w10.setCell ⟨gf, 0, none⟩ (.int .i64 K)).setCell ⟨gf, 1, none⟩ (.int .i64 R)).setCell ⟨gf, 2, none⟩ (.int .i64 S)).setCell ⟨gf, 3, none⟩ (.int .i64 P)).setCell ⟨gf, 4, none⟩ (.int .i64 V)).setCell ⟨gf, 5, none⟩ (.slice none 0 0)).drew.heap[gc]? = some (.cells #[.int .i64 a0_0, .int .i64 a0_1, .int .i64 a0_2, .int .i64 a0_3, .int .i64 a0_4, .slice A0_5 l0_5.length c0_5] 24 (0, 0)) from blk_drew (bF_ BC.out Ncf.out))
 replace BR := Aside0.mk (show ((((((w10.setCell ⟨gf, 0, none⟩ (.int .i64 K)).setCell ⟨gf, 1, none⟩ (.int .i64 R)).setCell ⟨gf, 2, none⟩ (.int .i64 S)).setCell ⟨gf, 3, none⟩ (.int .i64 P)).setCell ⟨gf, 4, none⟩ (.int .i64 V)).setCell ⟨gf, 5, none⟩ (.slice none 0 0)).drew.heap[gr]? = some (.cells #[.int .i64 0, .int .i64 0, .int .i64 0, .int .i64 0, .int .i64 0, .slice none 0 0] 29 (0, 0)) from blk_drew (bF_ BR.out Nrf.out))
 replace HI := Aside0.mk (show IsS96 w ((((((w10.setCell ⟨gf, 0, none⟩ (.int .i64 K)).setCell ⟨gf, 1, none⟩ (.int .i64 R)).setCell ⟨gf, 2, none⟩ (.int .i64 S)).setCell ⟨gf, 3, none⟩ (.int .i64 P)).setCell ⟨gf, 4, none⟩ (.int .i64 V)).setCell ⟨gf, 5, none⟩ (.slice none 0 0)).drew gs s4 from ⟨blk_drew (by refine blk_far ?_ Nsf.out _; refine blk_far ?_ Nsf.out _; refine blk_far ?_ Nsf.out _; refine blk_far ?_ Nsf.out _; refine blk_far ?_ Nsf.out _; refine blk_far ?_ Nsf.out _; exact HI.out.1), HI.out.2⟩)
 replace BF := Aside0.mk (show ((((((w10.setCell ⟨gf, 0, none⟩ (.int .i64 K)).setCell ⟨gf, 1, none⟩ (.int .i64 R)).setCell ⟨gf, 2, none⟩ (.int .i64 S)).setCell ⟨gf, 3, none⟩ (.int .i64 P)).setCell ⟨gf, 4, none⟩ (.int .i64 V)).setCell ⟨gf, 5, none⟩ (.slice none 0 0)).drew.heap[gf]? = some (.cells #[.int .i64 K, .int .i64 R, .int .i64 S, .int .i64 P, .int .i64 V, .slice none 0 0] 29 (0, 0)) from blk_drew (fr_put6 BF.out _ _ _ _ _ _))
 replace HB := Aside0.mk (show Below w.heap.size w ((((((w10.setCell ⟨gf, 0, none⟩ (.int .i64 K)).setCell ⟨gf, 1, none⟩ (.int .i64 R)).setCell ⟨gf, 2, none⟩ (.int .i64 S)).setCell ⟨gf, 3, none⟩ (.int .i64 P)).setCell ⟨gf, 4, none⟩ (.int .i64 V)).setCell ⟨gf, 5, none⟩ (.slice none 0 0)).drew from below_drew1 (pH_ HB.out))
 clear hcs hcz2_0 hcz3_0 hfz3_0 hcz2_1 hcz3_1 hfz3_1 hcz2_2 hcz3_2 hfz3_2 hcz2_3 hcz3_3 hfz3_3 hcz2_4 hcz3_4 hfz3_4 hcz2_5 hcz3_5 hfz3_5
 refine start_ (n := 13) (S := fun w' => w'.cell? ⟨gs, 0, none⟩ = some (.string s4) ∧ w'.cell? ⟨gc, 0, none⟩ = some (.int .i64 a0_0) ∧ w'.cell? ⟨gc, 1, none⟩ = some (.int .i64 a0_1) ∧ w'.cell? ⟨gc, 2, none⟩ = some (.int .i64 a0_2) ∧ w'.cell? ⟨gc, 3, none⟩ = some (.int .i64 a0_3) ∧ w'.cell? ⟨gc, 4, none⟩ = some (.int .i64 a0_4) ∧ w'.cell? ⟨gc, 5, none⟩ = some (.slice A0_5 l0_5.length c0_5) ∧ w'.cell? ⟨gf, 0, none⟩ = some (.int .i64 K) ∧ w'.cell? ⟨gf, 2, none⟩ = some (.int .i64 S)) (ds := []) #[false, false, false, false, false, false, false, false, false, false, false, false, false] (by kernel_rfl) rfl rfl ⟨(blk_cell HI.out.1 0).trans rfl, bc_ BC 0, bc_ BC 1, bc_ BC 2, bc_ BC 3, bc_ BC 4, bc_ BC 5, bc_ BF 0, bc_ BF 2⟩ (fun hHeld => ?_); refine with_tabW frame_Read.tab8 frame_Read.bits8 (fun HT_ HW_ => ?_)
 generalize ((((((w10.setCell ⟨gf, 0, none⟩ (.int .i64 K)).setCell ⟨gf, 1, none⟩ (.int .i64 R)).setCell ⟨gf, 2, none⟩ (.int .i64 S)).setCell ⟨gf, 3, none⟩ (.int .i64 P)).setCell ⟨gf, 4, none⟩ (.int .i64 V)).setCell ⟨gf, 5, none⟩ (.slice none 0 0)).drew = w12 at BC BR BF HI HB hHeld ⊢
 refine pq_ 0 35 HT_ ?_
 refine pq_ 1 36 HT_ ?_
 refine pq_ 2 37 HT_ ?_
 refine pq_ 6 41 HT_ ?_
 refine pq_ 8 43 HT_ ?_
 refine tq_ 3 38 HT_ HW_ hHeld ?_
 refine pq_ 4 39 HT_ ?_
 refine tq_ 5 40 HT_ HW_ hHeld ?_
 refine tq_ 7 42 HT_ HW_ hHeld ?_
 refine tq_ 9 44 HT_ HW_ hHeld ?_
 refine oq_ 10 45 HT_ (fun K_ hK => ?_)
 clear hHeld
 refine gs_ Try.func50 #[.agg #[.int .i64 a0_0, .int .i64 a0_1, .int .i64 a0_2, .int .i64 a0_3, .int .i64 a0_4, .slice A0_5 l0_5.length c0_5], .int .i64 K, .int .i64 S] ?_
 with_reducible refine (frame_echoes.calls a0_0 a0_1 a0_2 a0_3 a0_4 _ _ l0_5 K S E _ ?side1 ?side2 A10.out).mono ?_
 (case side1 => exact Kd.C_below HR0_5.out HB.out)
 (case side2 => exact HC0_5.out)
 rintro e w11 ⟨rfl, hb⟩
 refine ⟨_, rfl, ?_⟩
 replace BC := Aside0.mk (blk_below BC.out hb)
 replace BR := Aside0.mk (blk_below BR.out hb)
 replace HI := Aside0.mk (show IsS96 w w11 gs s4 from ⟨blk_below HI.out.1 hb, HI.out.2⟩)
 replace BF := Aside0.mk (blk_below BF.out hb)
 replace HB := Aside0.mk (below_step HB.out hb)
 clear hb
 refine hK.out _ _ ⟨(blk_cell HI.out.1 0).trans rfl, bc_ BC 0, bc_ BC 1, bc_ BC 2, bc_ BC 3, bc_ BC 4, bc_ BC 5, bc_ BF 0, bc_ BF 2⟩ (fun hHeld => ?_)
 clear hK K_
 refine nq_ 45 ?_
 refine pq_ 11 46 HT_ ?_
 refine pq_ 12 47 HT_ ?_
 refine done_ (done_of HT_.out (by kernel_rfl)) ?_
 by_cases c11 : (s4.size : Int) = wrap64 (10 * E)
 rotate_left
 ·
  rw [if_neg c11] at H
  have c11b0 : ((s4.size : Int) == wrap64 (10 * E)) = false := beq_eq_false_iff_ne.mpr c11
  have c11b1 : ((s4.size : Int) != wrap64 (10 * E)) = true := bne_iff_ne.mpr c11
  simp only [Option.some.injEq, Prod.mk.injEq] at H
  obtain ⟨rfl, rfl, rfl, rfl, rfl, rfl, rfl⟩ := H
  obtain ⟨hcz4_0, hcz4_1, hcz4_2, hcz4_3, hcz4_4, hcz4_5⟩ := c6_ BR
  obtain ⟨hfz4_0, hfz4_1, hfz4_2, hfz4_3, hfz4_4, hfz4_5⟩ := f6_ BR
  go_wp2
  refine bodyPost_ret (results_ct rfl _ _ gr 29 #[.int .i64 0, .int .i64 0, .int .i64 0, .int .i64 0, .int .i64 0, .slice none 0 0] (0, 0) _ rfl (by (with_reducible repeat (first | refine blk_drewN ?_ _ | refine blk_drew ?_ | refine blk_alloc ?_ _)); refine fr_put6 (pB_ BR.out) _ _ _ _ _ _) Try.underlying29 rfl (by kernel_rfl)) rfl ?_
  exact ⟨_, by first | rfl | (simp [errW_none, errW_some] <;> rfl) | (simp [*, errW_none, errW_some] <;> rfl), Kd.R_nil _ _ _ _ _, pH_ HB.out⟩
 rw [if_pos c11] at H
 have c11b0 : ((s4.size : Int) == wrap64 (10 * E)) = true := beq_iff_eq.mpr c11
 have c11b1 : ((s4.size : Int) != wrap64 (10 * E)) = false := bne_eq_false_iff_eq.mpr c11
 clear c11
 have H' := Aside0.mk H
 clear H
 generalize hkk : a1.size + 1 = kk at H'
 clear hkk
 clear hnb1 hnb2 hnb3 hnb4 hnb5 hnb6
 try go_wp2
 go_loopg [] kk (fun kq w' => ∃ (s : ByteArray) (acc : List S26) (u : Value), Aside0 (frame_Read.l0 a0_0 a0_1 a0_2 a0_3 a0_4 l0_5 K R S P V kq s acc = some (r1, r2, r3, r4, r5, r6, r7)) ∧ Aside0 (kq ≤ kk) ∧ Aside0 (Kd.R k26 26 w' w.heap.size (fun _ => True) u acc) ∧ Aside0 (w'.heap[gc]? = some (.cells #[.int .i64 a0_0, .int .i64 a0_1, .int .i64 a0_2, .int .i64 a0_3, .int .i64 a0_4, .slice A0_5 l0_5.length c0_5] 24 (0, 0))) ∧ Aside0 (w'.heap[gr]? = some (.cells #[.int .i64 0, .int .i64 0, .int .i64 0, .int .i64 0, .int .i64 0, .slice none 0 0] 29 (0, 0))) ∧ Aside0 (IsS96 w w' gs s) ∧ Aside0 (w'.heap[gf]? = some (.cells #[.int .i64 K, .int .i64 R, .int .i64 S, .int .i64 P, .int .i64 V, u] 29 (0, 0))) ∧ Aside0 (Below w.heap.size w w'))
 case atStart => exact ⟨s4, [], .slice none 0 0, H', ⟨Nat.le_refl _⟩, ⟨Kd.R_nil _ _ _ _ _⟩, BC, BR, HI, BF, HB⟩
 case round =>
  clear H'
  obtain ⟨s, acc, u, HA, HK1, HO, BC, BR, HI, BF, HB⟩ := hrel
  cases gk with
  | zero => exact absurd HA.out (by simp [frame_Read.l0])
  | succ k1 =>
   have H := HA.out
   clear HA
   simp only [frame_Read.l0] at H
   have hcs : wr.cell? ⟨gs, 0, none⟩ = some (.string s) := (blk_cell HI.out.1 0).trans rfl
   by_cases c20 : s.size = 0
   ·
    rw [if_pos c20] at H
    have c20b0 : (s.toList != (⟨#[]⟩ : ByteArray).toList) = false := bne_eq_false_iff_eq.mpr (by rw [fr_empty c20])
    have c20b1 : (s.toList != []) = false := bne_eq_false_iff_eq.mpr (by rw [fr_empty c20, ByteArray.toList_eq])
    have c20b2 : (s.toList == []) = true := beq_iff_eq.mpr (by rw [fr_empty c20, ByteArray.toList_eq])
    unfold frame_Read.tail at H
    obtain ⟨e9, A210, H⟩ := Option.bind_eq_some_iff.mp H
    have A21 := Aside0.mk A210
    clear A210
    obtain ⟨Ao, co, eo⟩ := Kd.R_slice HO.out
    subst eo
    have hnb7 := Ncf.out
    have hnb8 := Ncf.out.symm
    have hnb9 := Nrf.out
    have hnb10 := Nrf.out.symm
    have hnb11 := Ncr.out
    have hnb12 := Ncr.out.symm
    obtain ⟨hcz5_0, hcz5_1, hcz5_2, hcz5_3, hcz5_4, hcz5_5⟩ := c6_ BC
    obtain ⟨hcz6_0, hcz6_1, hcz6_2, hcz6_3, hcz6_4, hcz6_5⟩ := c6_ BF
    by_cases c22 : e9 = 0
    rotate_left
    ·
     rw [if_neg c22] at H
     have c22b1 : (e9 != 0) = true := bne_iff_ne.mpr c22
     simp only [Option.some.injEq, Prod.mk.injEq] at H
     obtain ⟨rfl, rfl, rfl, rfl, rfl, rfl, rfl⟩ := H
     go_wp2_with (first | ((with_reducible refine gate_callee (f := 22) rfl ?_); refine gL_ 63 Try.func22 #[.agg #[.int .i64 a0_0, .int .i64 a0_1, .int .i64 a0_2, .int .i64 a0_3, .int .i64 a0_4, .slice A0_5 l0_5.length c0_5], .agg #[.int .i64 K, .int .i64 R, .int .i64 S, .int .i64 P, .int .i64 V, .slice Ao acc.length co]] ?_; (with_reducible refine (frame_Check.calls a0_0 a0_1 a0_2 a0_3 a0_4 _ _ l0_5 K R S P V _ _ acc e9 _ ?side1 ?side2 ?side3 ?side4 A21.out).mono ?_); (case side1 => exact (Kd.C_below HR0_5.out (pH_ HB.out))); (case side2 => exact HC0_5.out); (case side3 => exact (Kd.R_reads' HO.out).2.2); (case side4 => exact (Kd.R_reads' HO.out).2.1); rintro e w21 ⟨rfl, hb⟩; refine ⟨_, rfl, ?_⟩; replace HO := Aside0.mk (Kd.R_below (pR_ HO.out) hb); replace BC := bb_ BC hb; replace BR := bb_ BR hb; replace BF := bb_ BF hb; replace HB := bs_ HB hb; clear hb; obtain ⟨hcz7_0, hcz7_1, hcz7_2, hcz7_3, hcz7_4, hcz7_5⟩ := c6_ BR; obtain ⟨hfz7_0, hfz7_1, hfz7_2, hfz7_3, hfz7_4, hfz7_5⟩ := f6_ BR))
     refine bodyPost_ret (results_ct rfl _ _ gr 29 #[.int .i64 0, .int .i64 0, .int .i64 0, .int .i64 0, .int .i64 0, .slice none 0 0] (0, 0) _ rfl (by (with_reducible repeat (first | refine blk_drewN ?_ _ | refine blk_drew ?_ | refine blk_alloc ?_ _)); refine fr_put6 (pB_ BR.out) _ _ _ _ _ _) Try.underlying29 rfl (by kernel_rfl)) rfl ?_
     exact ⟨_, by first | rfl | (simp [errW_none, errW_some] <;> rfl) | (simp [*, errW_none, errW_some] <;> rfl), Kd.R_nil _ _ _ _ _, pH_ HB.out⟩
    rw [if_pos c22] at H
    have c22b1 : (e9 != 0) = false := bne_eq_false_iff_eq.mpr c22
    subst c22
    obtain ⟨l9, A230, H⟩ := Option.bind_eq_some_iff.mp H
    have A23 := Aside0.mk A230
    clear A230
    simp only [Option.some.injEq, Prod.mk.injEq] at H
    obtain ⟨rfl, rfl, rfl, rfl, rfl, rfl, rfl⟩ := H
    go_wp2_with (first | ((with_reducible refine gate_callee (f := 22) rfl ?_); refine gL_ 63 Try.func22 #[.agg #[.int .i64 a0_0, .int .i64 a0_1, .int .i64 a0_2, .int .i64 a0_3, .int .i64 a0_4, .slice A0_5 l0_5.length c0_5], .agg #[.int .i64 K, .int .i64 R, .int .i64 S, .int .i64 P, .int .i64 V, .slice Ao acc.length co]] ?_; (with_reducible refine (frame_Check.calls a0_0 a0_1 a0_2 a0_3 a0_4 _ _ l0_5 K R S P V _ _ acc 0 _ ?side1 ?side2 ?side3 ?side4 A21.out).mono ?_); (case side1 => exact (Kd.C_below HR0_5.out (pH_ HB.out))); (case side2 => exact HC0_5.out); (case side3 => exact (Kd.R_reads' HO.out).2.2); (case side4 => exact (Kd.R_reads' HO.out).2.1); rintro e w21 ⟨rfl, hb⟩; refine ⟨_, rfl, ?_⟩; replace HO := Aside0.mk (Kd.R_below (pR_ HO.out) hb); replace BC := bb_ BC hb; replace BR := bb_ BR hb; replace BF := bb_ BF hb; replace HB := bs_ HB hb; clear hb; obtain ⟨hcz8_0, hcz8_1, hcz8_2, hcz8_3, hcz8_4, hcz8_5⟩ := c6_ BF) | ((with_reducible refine gate_callee (f := 69) rfl ?_); refine gL_ 70 Try.func69 #[.slice Ao acc.length co] ?_; (with_reducible refine (api_Item_69.calls _ _ acc l9 _ ?side1 ?side2 A23.out).mono ?_); (case side1 => exact (Kd.R_reads' HO.out).2.2); (case side2 => exact (Kd.R_reads' HO.out).2.1); rintro e w22 ⟨v9, rfl, ho0, hb⟩; refine ⟨_, rfl, ?_⟩; have HO2 := Aside0.mk (Kd.R_lower ho0 (below_size (pH_ HB.out))); replace BC := bb_ BC hb; replace BR := bb_ BR hb; replace BF := bb_ BF hb; replace HB := bs_ HB hb; clear hb ho0; obtain ⟨Ap, cp, ep⟩ := Kd.R_slice HO2.out; subst ep; obtain ⟨hcz9_0, hcz9_1, hcz9_2, hcz9_3, hcz9_4, hcz9_5⟩ := c6_ BF; obtain ⟨hfz9_0, hfz9_1, hfz9_2, hfz9_3, hfz9_4, hfz9_5⟩ := f6_ BF; obtain ⟨hcz10_0, hcz10_1, hcz10_2, hcz10_3, hcz10_4, hcz10_5⟩ := c6_ BR; obtain ⟨hfz10_0, hfz10_1, hfz10_2, hfz10_3, hfz10_4, hfz10_5⟩ := f6_ BR))
    refine bodyPost_ret (results_ct rfl _ _ gr 29 #[.int .i64 K, .int .i64 R, .int .i64 S, .int .i64 P, .int .i64 V, .slice Ap l9.length cp] (0, 0) _ rfl (by (with_reducible repeat (first | refine blk_drewN ?_ _ | refine blk_drew ?_ | refine blk_alloc ?_ _)); refine fr_put6 (a0 := .int .i64 0) (a1 := .int .i64 0) (a2 := .int .i64 0) (a3 := .int .i64 0) (a4 := .int .i64 0) (a5 := .slice none 0 0) ?_ _ _ _ _ _ _; (with_reducible repeat (first | refine blk_drewN ?_ _ | refine blk_drew ?_ | refine blk_alloc ?_ _)); refine blk_far ?_ Nrf.out _; exact pB_ BR.out) Try.underlying29 rfl (by kernel_rfl)) rfl ?_
    exact ⟨_, by first | rfl | (simp [errW_none, errW_some] <;> rfl) | (simp [*, errW_none, errW_some] <;> rfl), by (with_reducible repeat (first | apply Kd.R_alloc | apply Kd.R_drewN | apply Kd.R_drew)); exact Kd.R_mono (Kd.R_far (p := ⟨gr, 5, none⟩) (Kd.R_far (p := ⟨gr, 4, none⟩) (Kd.R_far (p := ⟨gr, 3, none⟩) (Kd.R_far (p := ⟨gr, 2, none⟩) (Kd.R_far (p := ⟨gr, 1, none⟩) (Kd.R_far (p := ⟨gr, 0, none⟩) (Kd.R_types (Kd.R_mono (Kd.R_far (p := ⟨gf, 5, none⟩) (Kd.R_types HO2.out BF.out (by decide)) (fun _ hk => hk.2) (.slice Ap l9.length cp)) (fun _ hk => trivial)) (blk_far BR.out Nrf.out _) (by decide)) (fun _ hk => hk.2) (.int .i64 K)) (fun _ hk => hk.2) (.int .i64 R)) (fun _ hk => hk.2) (.int .i64 S)) (fun _ hk => hk.2) (.int .i64 P)) (fun _ hk => hk.2) (.int .i64 V)) (fun _ hk => hk.2) (.slice Ap l9.length cp)) (fun _ hk => trivial), pH_ HB.out⟩
   rw [if_neg c20] at H
   have c20b0 : (s.toList != (⟨#[]⟩ : ByteArray).toList) = true := bne_iff_ne.mpr (fun h_ => c20 (fr_size (by rw [h_, ByteArray.toList_eq])))
   have c20b1 : (s.toList != []) = true := bne_iff_ne.mpr (fun h_ => c20 (fr_size h_))
   have c20b2 : (s.toList == []) = false := beq_eq_false_iff_ne.mpr (fun h_ => c20 (fr_size h_))
   clear c20
   obtain ⟨⟨P1, V1, s5⟩, A240, H⟩ := Option.bind_eq_some_iff.mp H
   try dsimp only at A240
   try dsimp only at H
   have A24 := Aside0.mk A240
   clear A240
   by_cases c25 : acc.length < 8796093022208
   rotate_left
   · rw [if_neg c25] at H; exact absurd H (by simp)
   rw [if_pos c25] at H
   have LM := Aside0.mk c25
   clear c25
   obtain ⟨y, hy⟩ : ∃ y_ : List S26, y_ = acc ++ [⟨P1, V1⟩] := ⟨_, rfl⟩
   rw [← hy] at H
   have Ny := Aside0.mk hy
   clear hy
   have H' := Aside0.mk H
   clear H
   try go_wp2
   replace HO := Aside0.mk (Kd.R_drew HO.out)
   replace BC := Aside0.mk (blk_drew BC.out)
   replace BR := Aside0.mk (blk_drew BR.out)
   replace BF := Aside0.mk (blk_drew BF.out)
   replace HI := Aside0.mk (show IsS96 w wr.drew gs s from ⟨blk_drew HI.out.1, HI.out.2⟩)
   replace HB := Aside0.mk (below_drew1 HB.out)
   clear hcs
   refine start_ (n := 8) (S := fun w' => w'.cell? ⟨gf, 0, none⟩ = some (.int .i64 K) ∧ w'.cell? ⟨gf, 1, none⟩ = some (.int .i64 R) ∧ w'.cell? ⟨gf, 2, none⟩ = some (.int .i64 S) ∧ w'.cell? ⟨gf, 3, none⟩ = some (.int .i64 P) ∧ w'.cell? ⟨gf, 4, none⟩ = some (.int .i64 V) ∧ w'.cell? ⟨gf, 5, none⟩ = some (u)) (ds := [7]) #[false, false, false, false, false, false, false, false] (by kernel_rfl) rfl rfl ⟨bc_ BF 0, bc_ BF 1, bc_ BF 2, bc_ BF 3, bc_ BF 4, bc_ BF 5⟩ (fun hHeld => ?_); refine with_tabW frame_Read.tab11 frame_Read.bits11 (fun HT_ HW_ => ?_)
   generalize wr.drew = w30 at HO BC BR BF HI HB hHeld ⊢
   refine pq_ 0 54 HT_ ?_
   refine pq_ 2 56 HT_ ?_
   refine tq_ 1 55 HT_ HW_ hHeld ?_
   refine oq_ 3 57 HT_ (fun K_ hK => ?_)
   clear hHeld
   refine gs_ Try.func68 #[.pointer (some ⟨gs, 0, none⟩)] ?_
   with_reducible refine (frame_reader_item.calls gs s P1 V1 s5 w _ HI.out HB.out A24.out).mono ?_
   rintro e w31 ⟨rfl, hi, hb, hk⟩
   refine ⟨_, rfl, ?_⟩
   have HO2 := Aside0.mk (Kd.R_mono (Kd.R_keep (IsS96.apart HI.out HO.out (by decide)) hk (fun _ h => h.2)) (fun _ h => h.1))
   clear HO
   have HO := HO2
   clear HO2
   replace BC := Aside0.mk (KeepBut.blk hk BC.out Ncs.out (by simp))
   replace BR := Aside0.mk (KeepBut.blk hk BR.out Nrs.out (by simp))
   replace BF := Aside0.mk (KeepBut.blk hk BF.out Nsf.out.symm (by simp))
   replace HI := Aside0.mk hi
   replace HB := Aside0.mk hb
   clear hi hb hk
   refine hK.out _ _ ⟨bc_ BF 0, bc_ BF 1, bc_ BF 2, bc_ BF 3, bc_ BF 4, bc_ BF 5⟩ (fun hHeld => ?_)
   clear hK K_
   refine nq_ 57 ?_
   refine oq_ 4 58 HT_ (fun K_ hK => ?_)
   clear hHeld
   refine value_ (w1 := ?_) (v := ?_) (by rfl) rfl ?_ ?_
   rotate_left 2
   ·
    go_simp
    constructor
    · rfl
    rfl
   refine hK.out _ _ ⟨(blk_cell (blk_alloc BF.out _) 0).trans rfl, (blk_cell (blk_alloc BF.out _) 1).trans rfl, (blk_cell (blk_alloc BF.out _) 2).trans rfl, (blk_cell (blk_alloc BF.out _) 3).trans rfl, (blk_cell (blk_alloc BF.out _) 4).trans rfl, (blk_cell (blk_alloc BF.out _) 5).trans rfl⟩ (fun hHeld => ?_)
   clear hK K_
   refine nq_ 58 ?_
   refine oq_ 5 59 HT_ (fun K_ hK => ?_)
   clear hHeld
   refine Kd.R_append_step k26 (w0 := w) w.heap.size (by rfl) (.tmp 55) (.tmp 58) 27 26 (.agg #[(.int .i64 0), (.int .i64 0)]) 16 rfl Try.underlying27 info26 rfl (by decide) (by omega) u acc (⟨P1, V1⟩ : S26) [.int .i64 P1, .int .i64 V1] (fun _ => True) (fun _ => False) rfl rfl ?aP (fun _ hk => hk.elim) ?aF ?aO ?aB ?aS ?aL ?_
   (case aP => exact k26_mkM _ _ _ (⟨P1, V1⟩ : S26))
   (case aB => exact (pH_ HB.out))
   (case aF => exact (fun _ _ => trivial))
   (case aO => exact (pR_ HO.out))
   (case aS => exact (below_size (pH_ HB.out)))
   (case aL => have := LM.out; omega)
   intro v59 w32 ho hb hg hat
   rw [← Ny.out] at ho
   have n0_ := Aside0.mk (blk_grown (g := gc) (o := .cells #[.int .i64 a0_0, .int .i64 a0_1, .int .i64 a0_2, .int .i64 a0_3, .int .i64 a0_4, .slice A0_5 l0_5.length c0_5] 24 (0, 0)) (pB_ BC.out) hg (Kd.R_ne HO.out BC.out (by decide)))
   have n1_ := Aside0.mk (blk_grown (g := gr) (o := .cells #[.int .i64 0, .int .i64 0, .int .i64 0, .int .i64 0, .int .i64 0, .slice none 0 0] 29 (0, 0)) (pB_ BR.out) hg (Kd.R_ne HO.out BR.out (by decide)))
   have n2_ := Aside0.mk (blk_grown (g := gf) (o := .cells #[.int .i64 K, .int .i64 R, .int .i64 S, .int .i64 P, .int .i64 V, u] 29 (0, 0)) (pB_ BF.out) hg (Kd.R_ne HO.out BF.out (by decide)))
   have n3_ := Aside0.mk (show IsS96 w w32 gs s5 from ⟨blk_grown (g := gs) (o := .cells #[.string s5] 96 (0, 0)) (pB_ HI.out.1) hg (Kd.R_ne HO.out HI.out.1 (by decide)), HI.out.2⟩)
   clear BC BR BF HI HB HO
   have BC := n0_
   have BR := n1_
   have BF := n2_
   have HI := n3_
   have HB := Aside0.mk hb
   have HO := Aside0.mk ho
   clear n0_ n1_ n2_ n3_ ho hb hg hat
   obtain ⟨Ao, co, eo⟩ := Kd.R_slice HO.out
   subst eo
   refine hK.out _ _ ⟨bc_ BF 0, bc_ BF 1, bc_ BF 2, bc_ BF 3, bc_ BF 4, bc_ BF 5⟩ (fun hHeld => ?_)
   clear hK K_
   refine nq_ 59 ?_
   refine pq_ 6 60 HT_ ?_
   refine last_ (i := 7) (N := none) #[true, true, true, true, true, true, true, true] rfl rfl (one_of HT_.out (by kernel_rfl)) (by decide) (fun K_ hK => ?_)
   have hs5 : w32.cell? ⟨gf, 5, none⟩ = some (u) := bc_ BF 5
   have hfs5 := blk_frozen BF.out 5
   refine skip_ (w1 := ?_) (by rfl) rfl ?_ ?_
   rotate_left
   ·
    go_simp
    rfl
   refine hK.out _ _ ?_
   clear hK K_
   refine done_ (done_of HT_.out (by kernel_rfl)) ?_
   try go_wp2
   go_roundg k1
   case measure => have := HK1.out; omega
   case rel => exact ⟨s5, y, .slice Ao y.length co, H', ⟨by have := HK1.out; omega⟩, ⟨by (with_reducible repeat (first | apply Kd.R_alloc | apply Kd.R_drewN | apply Kd.R_drew)); exact Kd.R_mono (Kd.R_far (p := ⟨gf, 5, none⟩) (Kd.R_types HO.out BF.out (by decide)) (fun _ hk => hk.2) (.slice Ao y.length co)) (fun _ hk => trivial)⟩, ⟨(bF_ BC.out Ncf.out)⟩, ⟨(bF_ BR.out Nrf.out)⟩, ⟨⟨(by (with_reducible repeat (first | refine blk_drewN ?_ _ | refine blk_drew ?_ | refine blk_alloc ?_ _)); refine blk_far ?_ Nsf.out _; (with_reducible repeat (first | refine blk_drewN ?_ _ | refine blk_drew ?_ | refine blk_alloc ?_ _)); exact HI.out.1), HI.out.2⟩⟩, ⟨by (with_reducible repeat (first | refine blk_drewN ?_ _ | refine blk_drew ?_ | refine blk_alloc ?_ _)); refine blk_put (cs := #[.int .i64 K, .int .i64 R, .int .i64 S, .int .i64 P, .int .i64 V, u]) ?_ 5 _ rfl; exact pB_ BF.out⟩, ⟨pH_ HB.out⟩⟩
end Go.Proofs.Ytcpohmfkmgcjkaa.P
