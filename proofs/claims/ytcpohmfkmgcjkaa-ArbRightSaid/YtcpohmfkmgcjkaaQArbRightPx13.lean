/- Printed by a program of this session (myprint) out of the translation: the functions as plain Lean functions, and that the calls compute them. What counts is Lean's check. -/
import Derived.Test.YtcpohmfkmgcjkaaQArbRightPx11
import Derived.Test.YtcpohmfkmgcjkaaQArbRightPx19
import Derived.Test.YtcpohmfkmgcjkaaQArbRightPx39
namespace Go.Proofs.Ytcpohmfkmgcjkaa.P
open Go.RowKit Go.Proofs.YtcpohmfkmgcjkaaW.PrintWords Go.Proofs.YtcpohmfkmgcjkaaW.PrintLast Go.Proofs.YtcpohmfkmgcjkaaW.PrintMore
attribute [local go_sem] max2_int min2_int max_two min_two max_three min_three max_four min_four
set_option linter.unusedVariables false
set_option linter.unusedSimpArgs false
attribute [-simp] ByteArray.size_extract ByteArray.size_append ByteArray.extract_append_extract
attribute [-go_sem] ByteArray.size_append'
attribute [local go_sem high] eqA26
def plaitingref5_item.f (a0_0 : Int) (a0_1 : Int) (a1 : Bool) : Option (Bool) := if a0_0 = 0 then (if a0_1 = 0 then (some (!a1)) else (some false)) else (if a0_0 = 1 then (some (a0_1 == 0)) else (if a0_0 = 2 then (if a0_1 ≥ 0 then (some (decide (a0_1 ≤ 255))) else (some false)) else (some false)))
set_option maxHeartbeats 8000000 in
set_option maxRecDepth 100000 in
theorem plaitingref5_item.calls (a0_0 : Int) (a0_1 : Int) (a1 : Bool) (r : Bool) (w : World) (h : plaitingref5_item.f a0_0 a0_1 a1 = some r) :
  Calls Try.prog 53 #[.agg #[.int .i64 a0_0, .int .i64 a0_1], .bool a1] w fun e w' => e = .returned (.bool r) ∧ Below w.heap.size w w' := by
 have hu26 := Try.underlying26
 have HB := Aside0.mk (Below.refl w.heap.size w)
 have H : (if a0_0 = 0 then (if a0_1 = 0 then (some (!a1)) else (some false)) else (if a0_0 = 1 then (some (a0_1 == 0)) else (if a0_0 = 2 then (if a0_1 ≥ 0 then (some (decide (a0_1 ≤ 255))) else (some false)) else (some false)))) = some r := h
 clear h
 by_cases c3 : a0_0 = 0
 ·
  rw [if_pos c3] at H
  have c3b0 : (a0_0 == 0) = true := beq_iff_eq.mpr c3
  have c3b1 : (a0_0 != 0) = false := bne_eq_false_iff_eq.mpr c3
  clear c3
  by_cases c4 : a0_1 = 0
  ·
   rw [if_pos c4] at H
   have c4b0 : (a0_1 == 0) = true := beq_iff_eq.mpr c4
   have c4b1 : (a0_1 != 0) = false := bne_eq_false_iff_eq.mpr c4
   clear c4
   obtain rfl := Option.some.inj H
   go_enter Try.func53, Try.ntmps53
   go_wp2_with (first | ((with_reducible refine gate_dst (N := 2) rfl ?_); refine be_ 2 #[.int .i64 a0_0, .int .i64 a0_1] 26 ?_; intro gbAe hg w5 hbox hb; have n0_ := bs_ HB hb; have n1_ := Aside0.mk (hbox); have n2_ := Aside0.mk ((by rw [hg]; exact (below_size (pH_ HB.out)) : w.heap.size ≤ gbAe)); have n3_ := Aside0.mk ((by rw [hg]; exact (below_size (pH_ HB.out)) : w.heap.size ≤ gbAe)); clear HB; have HB := n0_; have BKAe := n1_; have GWAe := n2_; have GEAe := n3_; clear n0_ n1_ n2_ n3_; clear hb hbox hg; have hcz6_0 : w5.cell? ⟨gbAe, 0, none⟩ = some (.int .i64 a0_0) := bc_ BKAe 0; have hcz6_1 : w5.cell? ⟨gbAe, 1, none⟩ = some (.int .i64 a0_1) := bc_ BKAe 1; have hfz6_0 := blk_frozen BKAe.out 0; have hfz6_1 := blk_frozen BKAe.out 1))
   go_ret
   exact ⟨by first | rfl | (simp [errW_none, errW_some] <;> rfl) | (simp [*, errW_none, errW_some] <;> rfl), pH_ HB.out⟩
  ·
   rw [if_neg c4] at H
   have c4b0 : (a0_1 == 0) = false := beq_eq_false_iff_ne.mpr c4
   have c4b1 : (a0_1 != 0) = true := bne_iff_ne.mpr c4
   obtain rfl := Option.some.inj H
   go_enter Try.func53, Try.ntmps53
   go_wp2_with (first | ((with_reducible refine gate_dst (N := 2) rfl ?_); refine be_ 2 #[.int .i64 a0_0, .int .i64 a0_1] 26 ?_; intro gbAe hg w7 hbox hb; have n0_ := bs_ HB hb; have n1_ := Aside0.mk (hbox); have n2_ := Aside0.mk ((by rw [hg]; exact (below_size (pH_ HB.out)) : w.heap.size ≤ gbAe)); have n3_ := Aside0.mk ((by rw [hg]; exact (below_size (pH_ HB.out)) : w.heap.size ≤ gbAe)); clear HB; have HB := n0_; have BKAe := n1_; have GWAe := n2_; have GEAe := n3_; clear n0_ n1_ n2_ n3_; clear hb hbox hg; have hcz8_0 : w7.cell? ⟨gbAe, 0, none⟩ = some (.int .i64 a0_0) := bc_ BKAe 0; have hcz8_1 : w7.cell? ⟨gbAe, 1, none⟩ = some (.int .i64 a0_1) := bc_ BKAe 1; have hfz8_0 := blk_frozen BKAe.out 0; have hfz8_1 := blk_frozen BKAe.out 1))
   go_ret
   exact ⟨by first | rfl | (simp [errW_none, errW_some] <;> rfl) | (simp [*, errW_none, errW_some] <;> rfl), pH_ HB.out⟩
 ·
  rw [if_neg c3] at H
  have c3b0 : (a0_0 == 0) = false := beq_eq_false_iff_ne.mpr c3
  have c3b1 : (a0_0 != 0) = true := bne_iff_ne.mpr c3
  by_cases c9 : a0_0 = 1
  ·
   rw [if_pos c9] at H
   have c9b0 : (a0_0 == 1) = true := beq_iff_eq.mpr c9
   have c9b1 : (a0_0 != 1) = false := bne_eq_false_iff_eq.mpr c9
   clear c9
   obtain rfl := Option.some.inj H
   go_enter Try.func53, Try.ntmps53
   go_wp2_with (first | ((with_reducible refine gate_dst (N := 2) rfl ?_); refine be_ 2 #[.int .i64 a0_0, .int .i64 a0_1] 26 ?_; intro gbAe hg w10 hbox hb; have n0_ := bs_ HB hb; have n1_ := Aside0.mk (hbox); have n2_ := Aside0.mk ((by rw [hg]; exact (below_size (pH_ HB.out)) : w.heap.size ≤ gbAe)); have n3_ := Aside0.mk ((by rw [hg]; exact (below_size (pH_ HB.out)) : w.heap.size ≤ gbAe)); clear HB; have HB := n0_; have BKAe := n1_; have GWAe := n2_; have GEAe := n3_; clear n0_ n1_ n2_ n3_; clear hb hbox hg; have hcz11_0 : w10.cell? ⟨gbAe, 0, none⟩ = some (.int .i64 a0_0) := bc_ BKAe 0; have hcz11_1 : w10.cell? ⟨gbAe, 1, none⟩ = some (.int .i64 a0_1) := bc_ BKAe 1; have hfz11_0 := blk_frozen BKAe.out 0; have hfz11_1 := blk_frozen BKAe.out 1))
   go_ret
   exact ⟨by first | rfl | (simp [errW_none, errW_some] <;> rfl) | (simp [*, errW_none, errW_some] <;> rfl), pH_ HB.out⟩
  ·
   rw [if_neg c9] at H
   have c9b0 : (a0_0 == 1) = false := beq_eq_false_iff_ne.mpr c9
   have c9b1 : (a0_0 != 1) = true := bne_iff_ne.mpr c9
   by_cases c12 : a0_0 = 2
   ·
    rw [if_pos c12] at H
    have c12b0 : (a0_0 == 2) = true := beq_iff_eq.mpr c12
    have c12b1 : (a0_0 != 2) = false := bne_eq_false_iff_eq.mpr c12
    clear c12
    by_cases c13 : a0_1 ≥ 0
    ·
     rw [if_pos c13] at H
     have c13b0 : decide (0 ≤ a0_1) = true := decide_eq_true c13
     clear c13
     obtain rfl := Option.some.inj H
     go_enter Try.func53, Try.ntmps53
     go_wp2_with (first | ((with_reducible refine gate_dst (N := 2) rfl ?_); refine be_ 2 #[.int .i64 a0_0, .int .i64 a0_1] 26 ?_; intro gbAe hg w14 hbox hb; have n0_ := bs_ HB hb; have n1_ := Aside0.mk (hbox); have n2_ := Aside0.mk ((by rw [hg]; exact (below_size (pH_ HB.out)) : w.heap.size ≤ gbAe)); have n3_ := Aside0.mk ((by rw [hg]; exact (below_size (pH_ HB.out)) : w.heap.size ≤ gbAe)); clear HB; have HB := n0_; have BKAe := n1_; have GWAe := n2_; have GEAe := n3_; clear n0_ n1_ n2_ n3_; clear hb hbox hg; have hcz15_0 : w14.cell? ⟨gbAe, 0, none⟩ = some (.int .i64 a0_0) := bc_ BKAe 0; have hcz15_1 : w14.cell? ⟨gbAe, 1, none⟩ = some (.int .i64 a0_1) := bc_ BKAe 1; have hfz15_0 := blk_frozen BKAe.out 0; have hfz15_1 := blk_frozen BKAe.out 1))
     go_ret
     exact ⟨by first | rfl | (simp [errW_none, errW_some] <;> rfl) | (simp [*, errW_none, errW_some] <;> rfl), pH_ HB.out⟩
    ·
     rw [if_neg c13] at H
     have c13b0 : decide (0 ≤ a0_1) = false := decide_eq_false c13
     clear c13
     obtain rfl := Option.some.inj H
     go_enter Try.func53, Try.ntmps53
     go_wp2_with (first | ((with_reducible refine gate_dst (N := 2) rfl ?_); refine be_ 2 #[.int .i64 a0_0, .int .i64 a0_1] 26 ?_; intro gbAe hg w16 hbox hb; have n0_ := bs_ HB hb; have n1_ := Aside0.mk (hbox); have n2_ := Aside0.mk ((by rw [hg]; exact (below_size (pH_ HB.out)) : w.heap.size ≤ gbAe)); have n3_ := Aside0.mk ((by rw [hg]; exact (below_size (pH_ HB.out)) : w.heap.size ≤ gbAe)); clear HB; have HB := n0_; have BKAe := n1_; have GWAe := n2_; have GEAe := n3_; clear n0_ n1_ n2_ n3_; clear hb hbox hg; have hcz17_0 : w16.cell? ⟨gbAe, 0, none⟩ = some (.int .i64 a0_0) := bc_ BKAe 0; have hcz17_1 : w16.cell? ⟨gbAe, 1, none⟩ = some (.int .i64 a0_1) := bc_ BKAe 1; have hfz17_0 := blk_frozen BKAe.out 0; have hfz17_1 := blk_frozen BKAe.out 1))
     go_ret
     exact ⟨by first | rfl | (simp [errW_none, errW_some] <;> rfl) | (simp [*, errW_none, errW_some] <;> rfl), pH_ HB.out⟩
   ·
    rw [if_neg c12] at H
    have c12b0 : (a0_0 == 2) = false := beq_eq_false_iff_ne.mpr c12
    have c12b1 : (a0_0 != 2) = true := bne_iff_ne.mpr c12
    obtain rfl := Option.some.inj H
    go_enter Try.func53, Try.ntmps53
    go_wp2_with (first | ((with_reducible refine gate_dst (N := 2) rfl ?_); refine be_ 2 #[.int .i64 a0_0, .int .i64 a0_1] 26 ?_; intro gbAe hg w18 hbox hb; have n0_ := bs_ HB hb; have n1_ := Aside0.mk (hbox); have n2_ := Aside0.mk ((by rw [hg]; exact (below_size (pH_ HB.out)) : w.heap.size ≤ gbAe)); have n3_ := Aside0.mk ((by rw [hg]; exact (below_size (pH_ HB.out)) : w.heap.size ≤ gbAe)); clear HB; have HB := n0_; have BKAe := n1_; have GWAe := n2_; have GEAe := n3_; clear n0_ n1_ n2_ n3_; clear hb hbox hg; have hcz19_0 : w18.cell? ⟨gbAe, 0, none⟩ = some (.int .i64 a0_0) := bc_ BKAe 0; have hcz19_1 : w18.cell? ⟨gbAe, 1, none⟩ = some (.int .i64 a0_1) := bc_ BKAe 1; have hfz19_0 := blk_frozen BKAe.out 0; have hfz19_1 := blk_frozen BKAe.out 1))
    go_ret
    exact ⟨by first | rfl | (simp [errW_none, errW_some] <;> rfl) | (simp [*, errW_none, errW_some] <;> rfl), pH_ HB.out⟩
def plaitingref5_echoes.f (a0_0 : Int) (a0_1 : Int) (a0_2 : Int) (a0_3 : Int) (a0_4 : Int) (l0_5 : List Int) (a1 : Int) (a2 : Int) : Option (Int) := if a1 = 3 then (if a2 < a0_0 then ((plaitingref3_Slots.f a0_0 a0_1 a0_2 a0_3 a0_4 l0_5).bind fun tBb => (some tBb)) else (some 0)) else (some 0)
set_option maxHeartbeats 8000000 in
set_option maxRecDepth 100000 in
theorem plaitingref5_echoes.calls (a0_0 : Int) (a0_1 : Int) (a0_2 : Int) (a0_3 : Int) (a0_4 : Int) (A0_5 : Option Addr) (c0_5 : Nat) (l0_5 : List Int) (a1 : Int) (a2 : Int) (r : Int) (w : World) (hr0_5 : Kd.C (Kd.int .i64) w A0_5 l0_5.length l0_5) (hc0_5 : l0_5.length ≤ c0_5) (h : plaitingref5_echoes.f a0_0 a0_1 a0_2 a0_3 a0_4 l0_5 a1 a2 = some r) :
  Calls Try.prog 54 #[.agg #[.int .i64 a0_0, .int .i64 a0_1, .int .i64 a0_2, .int .i64 a0_3, .int .i64 a0_4, .slice A0_5 l0_5.length c0_5], .int .i64 a1, .int .i64 a2] w fun e w' => e = .returned (.int .i64 r) ∧ Below w.heap.size w w' := by
 have hu24 := Try.underlying24
 have HR0_5 := Aside0.mk hr0_5
 have HC0_5 := Aside0.mk hc0_5
 clear hr0_5 hc0_5
 have HB := Aside0.mk (Below.refl w.heap.size w)
 have H : (if a1 = 3 then (if a2 < a0_0 then ((plaitingref3_Slots.f a0_0 a0_1 a0_2 a0_3 a0_4 l0_5).bind fun tBb => (some tBb)) else (some 0)) else (some 0)) = some r := h
 clear h
 by_cases c4 : a1 = 3
 ·
  rw [if_pos c4] at H
  have c4b0 : (a1 == 3) = true := beq_iff_eq.mpr c4
  have c4b1 : (a1 != 3) = false := bne_eq_false_iff_eq.mpr c4
  clear c4
  by_cases c5 : a2 < a0_0
  ·
   rw [if_pos c5] at H
   have c5b0 : decide (a2 < a0_0) = true := decide_eq_true c5
   clear c5
   replace H := Option.bind_eq_some_iff.mp H
   obtain ⟨tBb, A60, H⟩ := H
   try dsimp only at H
   have A6 := Aside0.mk A60
   clear A60
   obtain rfl := Option.some.inj H
   go_enter Try.func54, Try.ntmps54
   go_wp2_with (first | ((with_reducible refine gate_dst (N := 3) rfl ?_); refine be_ 3 #[.int .i64 a0_0, .int .i64 a0_1, .int .i64 a0_2, .int .i64 a0_3, .int .i64 a0_4, .slice A0_5 l0_5.length c0_5] 24 ?_; intro gbAm hg w7 hbox hb; have n0_ := bs_ HB hb; have n1_ := Aside0.mk (hbox); have n2_ := Aside0.mk ((by rw [hg]; exact (below_size (pH_ HB.out)) : w.heap.size ≤ gbAm)); have n3_ := Aside0.mk ((by rw [hg]; exact (below_size (pH_ HB.out)) : w.heap.size ≤ gbAm)); clear HB; have HB := n0_; have BKAm := n1_; have GWAm := n2_; have GEAm := n3_; clear n0_ n1_ n2_ n3_; clear hb hbox hg; obtain ⟨hcz8_0, hcz8_1, hcz8_2, hcz8_3, hcz8_4, hcz8_5⟩ := c6_ BKAm; obtain ⟨hfz8_0, hfz8_1, hfz8_2, hfz8_3, hfz8_4, hfz8_5⟩ := f6_ BKAm) | ((with_reducible refine gate_callee (f := 25) rfl ?_); refine gL_ 16 Try.func25 #[.agg #[.int .i64 a0_0, .int .i64 a0_1, .int .i64 a0_2, .int .i64 a0_3, .int .i64 a0_4, .slice A0_5 l0_5.length c0_5]] ?_; (with_reducible refine (plaitingref3_Slots.calls a0_0 a0_1 a0_2 a0_3 a0_4 _ _ l0_5 tBb _ ?side1 ?side2 A6.out).mono ?_); (case side1 => exact cC_ (Kd.C_below HR0_5.out HB.out)); (case side2 => exact HC0_5.out); rintro e w9 ⟨rfl, hb⟩; refine ⟨_, rfl, ?_⟩; have n0_ := Aside0.mk (blk_below (g := gbAm) (o := .cells #[.int .i64 a0_0, .int .i64 a0_1, .int .i64 a0_2, .int .i64 a0_3, .int .i64 a0_4, .slice A0_5 l0_5.length c0_5] 24 (0, 0)) (pB_ BKAm.out) hb); have n1_ := bs_ HB hb; clear BKAm; clear HB; have BKAm := n0_; have HB := n1_; clear n0_ n1_; (try clear hb); (try clear hb2); (try clear hk); (try clear hi)))
   go_ret
   exact ⟨by first | rfl | (simp [errW_none, errW_some] <;> rfl) | (simp [*, errW_none, errW_some] <;> rfl), pH_ HB.out⟩
  ·
   rw [if_neg c5] at H
   have c5b0 : decide (a2 < a0_0) = false := decide_eq_false c5
   clear c5
   obtain rfl := Option.some.inj H
   go_enter Try.func54, Try.ntmps54
   go_wp2_with (first | ((with_reducible refine gate_dst (N := 3) rfl ?_); refine be_ 3 #[.int .i64 a0_0, .int .i64 a0_1, .int .i64 a0_2, .int .i64 a0_3, .int .i64 a0_4, .slice A0_5 l0_5.length c0_5] 24 ?_; intro gbAm hg w10 hbox hb; have n0_ := bs_ HB hb; have n1_ := Aside0.mk (hbox); have n2_ := Aside0.mk ((by rw [hg]; exact (below_size (pH_ HB.out)) : w.heap.size ≤ gbAm)); have n3_ := Aside0.mk ((by rw [hg]; exact (below_size (pH_ HB.out)) : w.heap.size ≤ gbAm)); clear HB; have HB := n0_; have BKAm := n1_; have GWAm := n2_; have GEAm := n3_; clear n0_ n1_ n2_ n3_; clear hb hbox hg; obtain ⟨hcz11_0, hcz11_1, hcz11_2, hcz11_3, hcz11_4, hcz11_5⟩ := c6_ BKAm; obtain ⟨hfz11_0, hfz11_1, hfz11_2, hfz11_3, hfz11_4, hfz11_5⟩ := f6_ BKAm))
   go_ret
   exact ⟨by first | rfl | (simp [errW_none, errW_some] <;> rfl) | (simp [*, errW_none, errW_some] <;> rfl), pH_ HB.out⟩
 ·
  rw [if_neg c4] at H
  have c4b0 : (a1 == 3) = false := beq_eq_false_iff_ne.mpr c4
  have c4b1 : (a1 != 3) = true := bne_iff_ne.mpr c4
  obtain rfl := Option.some.inj H
  go_enter Try.func54, Try.ntmps54
  go_wp2_with (first | ((with_reducible refine gate_dst (N := 3) rfl ?_); refine be_ 3 #[.int .i64 a0_0, .int .i64 a0_1, .int .i64 a0_2, .int .i64 a0_3, .int .i64 a0_4, .slice A0_5 l0_5.length c0_5] 24 ?_; intro gbAm hg w12 hbox hb; have n0_ := bs_ HB hb; have n1_ := Aside0.mk (hbox); have n2_ := Aside0.mk ((by rw [hg]; exact (below_size (pH_ HB.out)) : w.heap.size ≤ gbAm)); have n3_ := Aside0.mk ((by rw [hg]; exact (below_size (pH_ HB.out)) : w.heap.size ≤ gbAm)); clear HB; have HB := n0_; have BKAm := n1_; have GWAm := n2_; have GEAm := n3_; clear n0_ n1_ n2_ n3_; clear hb hbox hg))
  go_ret
  exact ⟨by first | rfl | (simp [errW_none, errW_some] <;> rfl) | (simp [*, errW_none, errW_some] <;> rfl), pH_ HB.out⟩
mutual
def plaitingref5_Check.j0 : Nat → Bool → Int → Int → Int → Int → Int → List Int → Int → Int → Int → Int → Int → List (S26) → Option (Int)
 | 0, _, _, _, _, _, _, _, _, _, _, _, _, _ => none
 | k + 1, x25, xAa000, xAa001, xAa002, xAa003, xAa004, xAa005, xAd000, xAd001, xAd002, xAd003, xAd004, xAd005 => if x25 = true then (some 1) else (if xAd000 < 1 then (plaitingref5_Check.j1 k true xAa000 xAa001 xAa002 xAa003 xAa004 xAa005 xAd000 xAd001 xAd002 xAd003 xAd004 xAd005) else (if xAd000 > 3 then (plaitingref5_Check.j1 k true xAa000 xAa001 xAa002 xAa003 xAa004 xAa005 xAd000 xAd001 xAd002 xAd003 xAd004 xAd005) else (if xAd000 = 3 then (plaitingref5_Check.j1 k false xAa000 xAa001 xAa002 xAa003 xAa004 xAa005 xAd000 xAd001 xAd002 xAd003 xAd004 xAd005) else (plaitingref5_Check.j1 k (decide (xAd002 ≥ xAa000)) xAa000 xAa001 xAa002 xAa003 xAa004 xAa005 xAd000 xAd001 xAd002 xAd003 xAd004 xAd005))))
def plaitingref5_Check.j1 : Nat → Bool → Int → Int → Int → Int → Int → List Int → Int → Int → Int → Int → Int → List (S26) → Option (Int)
 | 0, _, _, _, _, _, _, _, _, _, _, _, _, _ => none
 | k + 1, x45, xAa000, xAa001, xAa002, xAa003, xAa004, xAa005, xAd000, xAd001, xAd002, xAd003, xAd004, xAd005 => if x45 = true then (some 6) else ((plaitingref5_item.f xAd003 xAd004 (xAd000 == 3)).bind fun tBd => (if tBd = true then (if xAd000 = 3 then (plaitingref5_Check.j2 k false xAa000 xAa001 xAa002 xAa003 xAa004 xAa005 xAd000 xAd001 xAd002 xAd003 xAd004 xAd005) else (plaitingref5_Check.j2 k (xAd003 != 0) xAa000 xAa001 xAa002 xAa003 xAa004 xAa005 xAd000 xAd001 xAd002 xAd003 xAd004 xAd005)) else (plaitingref5_Check.j2 k true xAa000 xAa001 xAa002 xAa003 xAa004 xAa005 xAd000 xAd001 xAd002 xAd003 xAd004 xAd005)))
def plaitingref5_Check.j2 : Nat → Bool → Int → Int → Int → Int → Int → List Int → Int → Int → Int → Int → Int → List (S26) → Option (Int)
 | 0, _, _, _, _, _, _, _, _, _, _, _, _, _ => none
 | k + 1, x63, xAa000, xAa001, xAa002, xAa003, xAa004, xAa005, xAd000, xAd001, xAd002, xAd003, xAd004, xAd005 => if x63 = true then (some 1) else ((plaitingref5_echoes.f xAa000 xAa001 xAa002 xAa003 xAa004 xAa005 xAd000 xAd002).bind fun tAw => (if (xAd005.length : Int) = tAw then (plaitingref5_Check.l0 k 0 xAd000 xAd001 xAd002 xAd003 xAd004 xAd005) else (some 2)))
def plaitingref5_Check.l0 : Nat → Int → Int → Int → Int → Int → Int → List (S26) → Option (Int)
 | 0, _, _, _, _, _, _, _ => none
 | k + 1, x5, xAd000, xAd001, xAd002, xAd003, xAd004, xAd005 => if x5 < (xAd005.length : Int) then (if 0 ≤ x5 then ((plaitingref5_item.f ((rd_T26 xAd005 x5).f0) ((rd_T26 xAd005 x5).f1) false).bind fun tBf => (if tBf = true then (plaitingref5_Check.l0 k (wrap64 (x5 + 1)) xAd000 xAd001 xAd002 xAd003 xAd004 xAd005) else (some 1))) else (none)) else (some 0)
end
def plaitingref5_Check.f (k : Nat) (a0_0 : Int) (a0_1 : Int) (a0_2 : Int) (a0_3 : Int) (a0_4 : Int) (l0_5 : List Int) (a1_0 : Int) (a1_1 : Int) (a1_2 : Int) (a1_3 : Int) (a1_4 : Int) (l1_5 : List (S26)) : Option (Int) := if a1_2 < 0 then (plaitingref5_Check.j0 k true a0_0 a0_1 a0_2 a0_3 a0_4 l0_5 a1_0 a1_1 a1_2 a1_3 a1_4 l1_5) else ((plaitingref3_Slots.f a0_0 a0_1 a0_2 a0_3 a0_4 l0_5).bind fun tAd => (if a1_2 ≥ tAd then (plaitingref5_Check.j0 k true a0_0 a0_1 a0_2 a0_3 a0_4 l0_5 a1_0 a1_1 a1_2 a1_3 a1_4 l1_5) else (if a1_1 < 0 then (plaitingref5_Check.j0 k true a0_0 a0_1 a0_2 a0_3 a0_4 l0_5 a1_0 a1_1 a1_2 a1_3 a1_4 l1_5) else (plaitingref5_Check.j0 k (decide (a1_1 ≥ 65536)) a0_0 a0_1 a0_2 a0_3 a0_4 l0_5 a1_0 a1_1 a1_2 a1_3 a1_4 l1_5))))
def plaitingref5_Check.T1 : Bool × List (List Nat × List Nat) := (true, [([], []), ([0], [0]), ([1], [1]), ([2], [2]), ([3], [3]), ([4, 3], [3, 4]), ([3], [3]), ([6, 3, 3], [3, 6]), ([5, 7, 3], [3, 5, 7]), ([3, 8], [3, 8]), ([9, 7], [9]), ([10], [10]), ([11, 10], [10, 11]), ([12, 10], [10, 12]), ([10, 13], [10, 13]), ([14, 10], [14]), ([15], [15]), ([16, 15], [15, 16]), ([17, 15], [15, 17]), ([15, 18], [15, 18])])
def plaitingref5_Check.B1 : List Nat := [0, 1, 3, 7, 15, 31, 15, 79, 255, 511, 1023, 2047, 4095, 8191, 16383, 32767, 65535, 131071, 262143, 524287]
theorem plaitingref5_Check.tab1 : rtab .any (opsOf Try.f23 1) = plaitingref5_Check.T1 := by kernel_rfl
theorem plaitingref5_Check.bits1 : waitsOk plaitingref5_Check.T1.2 plaitingref5_Check.B1 = true := by kernel_rfl
def plaitingref5_Check.T7 : Bool × List (List Nat × List Nat) := (true, [([], []), ([0], [0]), ([1], [1]), ([], []), ([], []), ([4], [4]), ([], []), ([6], [6]), ([3, 5, 7], [3, 5, 7]), ([2, 8], [2, 8])])
def plaitingref5_Check.B7 : List Nat := [0, 1, 3, 0, 0, 16, 0, 64, 248, 511]
theorem plaitingref5_Check.tab7 : rtab .any (opsOf Try.f23 7) = plaitingref5_Check.T7 := by kernel_rfl
theorem plaitingref5_Check.bits7 : waitsOk plaitingref5_Check.T7.2 plaitingref5_Check.B7 = true := by kernel_rfl
set_option maxHeartbeats 8000000 in
set_option maxRecDepth 100000 in
theorem plaitingref5_Check.calls (k : Nat) (a0_0 : Int) (a0_1 : Int) (a0_2 : Int) (a0_3 : Int) (a0_4 : Int) (A0_5 : Option Addr) (c0_5 : Nat) (l0_5 : List Int) (a1_0 : Int) (a1_1 : Int) (a1_2 : Int) (a1_3 : Int) (a1_4 : Int) (A1_5 : Option Addr) (c1_5 : Nat) (l1_5 : List (S26)) (r : Int) (w : World) (hr0_5 : Kd.C (Kd.int .i64) w A0_5 l0_5.length l0_5) (hc0_5 : l0_5.length ≤ c0_5) (hr1_5 : Kd.C k26 w A1_5 l1_5.length l1_5) (hc1_5 : l1_5.length ≤ c1_5) (h : plaitingref5_Check.f k a0_0 a0_1 a0_2 a0_3 a0_4 l0_5 a1_0 a1_1 a1_2 a1_3 a1_4 l1_5 = some r) :
  Calls Try.prog 23 #[.agg #[.int .i64 a0_0, .int .i64 a0_1, .int .i64 a0_2, .int .i64 a0_3, .int .i64 a0_4, .slice A0_5 l0_5.length c0_5], .agg #[.int .i64 a1_0, .int .i64 a1_1, .int .i64 a1_2, .int .i64 a1_3, .int .i64 a1_4, .slice A1_5 l1_5.length c1_5]] w fun e w' => e = .returned (.int .i64 r) ∧ Below w.heap.size w w' := by
 have hu24 := Try.underlying24
 have hu29 := Try.underlying29
 have hu26 := Try.underlying26
 have HR0_5 := Aside0.mk hr0_5
 have HC0_5 := Aside0.mk hc0_5
 clear hr0_5 hc0_5
 have HR1_5 := Aside0.mk hr1_5
 have HC1_5 := Aside0.mk hc1_5
 clear hr1_5 hc1_5
 have HB := Aside0.mk (Below.refl w.heap.size w)
 have H : (if a1_2 < 0 then (plaitingref5_Check.j0 k true a0_0 a0_1 a0_2 a0_3 a0_4 l0_5 a1_0 a1_1 a1_2 a1_3 a1_4 l1_5) else ((plaitingref3_Slots.f a0_0 a0_1 a0_2 a0_3 a0_4 l0_5).bind fun tAd => (if a1_2 ≥ tAd then (plaitingref5_Check.j0 k true a0_0 a0_1 a0_2 a0_3 a0_4 l0_5 a1_0 a1_1 a1_2 a1_3 a1_4 l1_5) else (if a1_1 < 0 then (plaitingref5_Check.j0 k true a0_0 a0_1 a0_2 a0_3 a0_4 l0_5 a1_0 a1_1 a1_2 a1_3 a1_4 l1_5) else (plaitingref5_Check.j0 k (decide (a1_1 ≥ 65536)) a0_0 a0_1 a0_2 a0_3 a0_4 l0_5 a1_0 a1_1 a1_2 a1_3 a1_4 l1_5))))) = some r := h
 clear h
 have HC3 := Aside0.mk H
 clear H
 go_enter Try.func23, Try.ntmps23
 go_upto_region 1 with (first | ((with_reducible refine gate_dst (N := 2) rfl ?_); refine be_ 2 #[.int .i64 a0_0, .int .i64 a0_1, .int .i64 a0_2, .int .i64 a0_3, .int .i64 a0_4, .slice A0_5 l0_5.length c0_5] 24 ?_; intro gbAb hg w4 hbox hb; have BKAb := Aside0.mk (hbox); have GWAb := Aside0.mk ((by rw [hg]; exact (below_size (pH_ HB.out)) : w.heap.size ≤ gbAb)); have GEAb := Aside0.mk ((by rw [hg]; exact (below_size (pH_ HB.out)) : w.heap.size ≤ gbAb)); replace HB := bs_ HB hb; clear hb hbox hg) | ((with_reducible refine gate_dst (N := 3) rfl ?_); refine be_ 3 #[.int .i64 a1_0, .int .i64 a1_1, .int .i64 a1_2, .int .i64 a1_3, .int .i64 a1_4, .slice A1_5 l1_5.length c1_5] 29 ?_; intro gbAa hg w5 hbox hb; have BKAa := Aside0.mk (hbox); have GWAa := Aside0.mk ((by rw [hg]; exact (below_size (pH_ HB.out)) : w.heap.size ≤ gbAa)); have GEAa := Aside0.mk ((by rw [hg]; exact (below_size (pH_ HB.out)) : w.heap.size ≤ gbAa)); have NBAb_Aa := Aside0.mk (ltB_ hg BKAb.out); have NBAa_Ab := Aside0.mk (ltB_ hg BKAb.out).symm; replace BKAb := bb_ BKAb hb; replace HB := bs_ HB hb; clear hb hbox hg))
 (try simp only [Act.put, List.setIfInBounds_toArray, List.set_cons_zero, List.set_cons_succ])
 go_cut [25] (fun v25 wc => ∃ (kq : Nat) (x25_2 : Bool), v25 = .bool x25_2 ∧ Aside0 (plaitingref5_Check.j0 kq x25_2 a0_0 a0_1 a0_2 a0_3 a0_4 l0_5 a1_0 a1_1 a1_2 a1_3 a1_4 l1_5 = some r) ∧ Aside0 (kq ≤ k) ∧ Aside0 (wc.heap[gbAb]? = some (.cells #[.int .i64 a0_0, .int .i64 a0_1, .int .i64 a0_2, .int .i64 a0_3, .int .i64 a0_4, (.slice A0_5 l0_5.length c0_5)] 24 (0, 0))) ∧ Aside0 (wc.heap[gbAa]? = some (.cells #[.int .i64 a1_0, .int .i64 a1_1, .int .i64 a1_2, .int .i64 a1_3, .int .i64 a1_4, (.slice A1_5 l1_5.length c1_5)] 29 (0, 0))) ∧ Aside0 (Below w.heap.size w wc))
 case first =>
  have H := HC3.out
  clear HC3
  by_cases c6 : a1_2 < 0
  ·
   rw [if_pos c6] at H
   have c6b0 : decide (a1_2 < 0) = true := decide_eq_true c6
   clear c6
   (first | rw [c6b0] | (simp only [i64_w, i32_w]; rw [c6b0]) | skip)
   have H' := Aside0.mk H
   clear H
   try go_wp2
   replace BKAb := Aside0.mk (blk_drew BKAb.out)
   replace BKAa := Aside0.mk (blk_drew BKAa.out)
   replace HB := Aside0.mk (below_drew1 HB.out)
   refine start_ (n := 20) (S := fun w' => w'.cell? ⟨gbAa, 0, none⟩ = some (.int .i64 a1_0) ∧ w'.cell? ⟨gbAa, 1, none⟩ = some (.int .i64 a1_1) ∧ w'.cell? ⟨gbAa, 2, none⟩ = some (.int .i64 a1_2) ∧ w'.cell? ⟨gbAa, 3, none⟩ = some (.int .i64 a1_3) ∧ w'.cell? ⟨gbAa, 4, none⟩ = some (.int .i64 a1_4) ∧ w'.cell? ⟨gbAa, 5, none⟩ = some (.slice A1_5 l1_5.length c1_5)) (ds := []) #[false, false, false, false, false, false, false, false, false, false, false, false, false, false, false, false, false, false, false, false] (by kernel_rfl) rfl rfl ⟨bc_ BKAa 0, bc_ BKAa 1, bc_ BKAa 2, bc_ BKAa 3, bc_ BKAa 4, bc_ BKAa 5⟩ (fun hHeld => ?_); refine with_tabW plaitingref5_Check.tab1 plaitingref5_Check.bits1 (fun HT_ HW_ => ?_)
   generalize w5.drew = w7 at BKAb BKAa HB hHeld ⊢
   refine pq_ 0 6 HT_ ?_
   refine tq_ 1 7 HT_ HW_ hHeld ?_
   refine pq_ 2 8 HT_ ?_
   refine pq_ 3 9 HT_ ?_
   refine pu_ 4 10 HT_ ?_
   refine pu_ 5 11 HT_ ?_
   refine pu_ 6 12 HT_ ?_
   refine pu_ 7 13 HT_ ?_
   refine pu_ 8 14 HT_ ?_
   refine pq_ 9 15 HT_ ?_
   refine pq_ 10 16 HT_ ?_
   refine pu_ 11 17 HT_ ?_
   refine pu_ 12 18 HT_ ?_
   refine pu_ 13 19 HT_ ?_
   refine pq_ 14 20 HT_ ?_
   refine pq_ 15 21 HT_ ?_
   refine pu_ 16 22 HT_ ?_
   refine pu_ 17 23 HT_ ?_
   refine pu_ 18 24 HT_ ?_
   refine pq_ 19 25 HT_ ?_
   refine done_ (done_of HT_.out (by kernel_rfl)) ?_
   try go_wp2
   go_meet
   case rel => exact ⟨_, (true), (by first | rfl | (simp; done) | (simp [*]; done)), H', ⟨by first | omega | exact Nat.le_refl _⟩, ⟨pB_ BKAb.out⟩, ⟨pB_ BKAa.out⟩, ⟨pH_ HB.out⟩⟩
  rw [if_neg c6] at H
  have c6b0 : decide (a1_2 < 0) = false := decide_eq_false c6
  clear c6
  (first | rw [c6b0] | (simp only [i64_w, i32_w]; rw [c6b0]) | skip)
  replace H := Option.bind_eq_some_iff.mp H
  obtain ⟨tAd, A80, H⟩ := H
  try dsimp only at H
  have A8 := Aside0.mk A80
  clear A80
  by_cases c9 : a1_2 ≥ tAd
  ·
   rw [if_pos c9] at H
   have c9b0 : decide (tAd ≤ a1_2) = true := decide_eq_true c9
   clear c9
   have H' := Aside0.mk H
   clear H
   try go_wp2
   replace BKAb := Aside0.mk (blk_drew BKAb.out)
   replace BKAa := Aside0.mk (blk_drew BKAa.out)
   replace HB := Aside0.mk (below_drew1 HB.out)
   refine start_ (n := 20) (S := fun w' => w'.cell? ⟨gbAa, 0, none⟩ = some (.int .i64 a1_0) ∧ w'.cell? ⟨gbAa, 1, none⟩ = some (.int .i64 a1_1) ∧ w'.cell? ⟨gbAa, 2, none⟩ = some (.int .i64 a1_2) ∧ w'.cell? ⟨gbAa, 3, none⟩ = some (.int .i64 a1_3) ∧ w'.cell? ⟨gbAa, 4, none⟩ = some (.int .i64 a1_4) ∧ w'.cell? ⟨gbAa, 5, none⟩ = some (.slice A1_5 l1_5.length c1_5) ∧ w'.cell? ⟨gbAb, 0, none⟩ = some (.int .i64 a0_0) ∧ w'.cell? ⟨gbAb, 1, none⟩ = some (.int .i64 a0_1) ∧ w'.cell? ⟨gbAb, 2, none⟩ = some (.int .i64 a0_2) ∧ w'.cell? ⟨gbAb, 3, none⟩ = some (.int .i64 a0_3) ∧ w'.cell? ⟨gbAb, 4, none⟩ = some (.int .i64 a0_4) ∧ w'.cell? ⟨gbAb, 5, none⟩ = some (.slice A0_5 l0_5.length c0_5)) (ds := []) #[false, false, false, false, false, false, false, false, false, false, false, false, false, false, false, false, false, false, false, false] (by kernel_rfl) rfl rfl ⟨bc_ BKAa 0, bc_ BKAa 1, bc_ BKAa 2, bc_ BKAa 3, bc_ BKAa 4, bc_ BKAa 5, bc_ BKAb 0, bc_ BKAb 1, bc_ BKAb 2, bc_ BKAb 3, bc_ BKAb 4, bc_ BKAb 5⟩ (fun hHeld => ?_); refine with_tabW plaitingref5_Check.tab1 plaitingref5_Check.bits1 (fun HT_ HW_ => ?_)
   generalize w5.drew = w10 at BKAb BKAa HB hHeld ⊢
   refine pq_ 0 6 HT_ ?_
   refine tq_ 1 7 HT_ HW_ hHeld ?_
   refine pq_ 2 8 HT_ ?_
   refine pq_ 3 9 HT_ ?_
   refine pq_ 4 10 HT_ ?_
   refine tq_ 5 11 HT_ HW_ hHeld ?_
   refine tq_ 6 12 HT_ HW_ hHeld ?_
   refine oq_ 7 13 HT_ (fun K hK => ?_)
   refine gs_ Try.func25 #[.agg #[.int .i64 a0_0, .int .i64 a0_1, .int .i64 a0_2, .int .i64 a0_3, .int .i64 a0_4, .slice A0_5 l0_5.length c0_5]] ?_
   with_reducible refine (plaitingref3_Slots.calls a0_0 a0_1 a0_2 a0_3 a0_4 _ _ l0_5 tAd _ ?side1 ?side2 A8.out).mono ?_
   (case side1 => exact cC_ (Kd.C_below HR0_5.out HB.out))
   (case side2 => exact HC0_5.out)
   rintro e w11 ⟨rfl, hb⟩
   refine ⟨_, rfl, ?_⟩
   replace BKAb := bb_ BKAb hb
   replace BKAa := bb_ BKAa hb
   replace HB := bs_ HB hb
   (try clear hb)
   (try clear hb2)
   (try clear hk)
   (try clear hi)
   refine hK.out _ _ ⟨bc_ BKAa 0, bc_ BKAa 1, bc_ BKAa 2, bc_ BKAa 3, bc_ BKAa 4, bc_ BKAa 5, bc_ BKAb 0, bc_ BKAb 1, bc_ BKAb 2, bc_ BKAb 3, bc_ BKAb 4, bc_ BKAb 5⟩ (fun hHeld => ?_)
   clear hK K
   refine nq_ 13 ?_
   refine pq_ 8 14 HT_ ?_
   refine pq_ 9 15 HT_ ?_
   refine pq_ 10 16 HT_ ?_
   refine pu_ 11 17 HT_ ?_
   refine pu_ 12 18 HT_ ?_
   refine pu_ 13 19 HT_ ?_
   refine pq_ 14 20 HT_ ?_
   refine pq_ 15 21 HT_ ?_
   refine pu_ 16 22 HT_ ?_
   refine pu_ 17 23 HT_ ?_
   refine pu_ 18 24 HT_ ?_
   refine pq_ 19 25 HT_ ?_
   refine done_ (done_of HT_.out (by kernel_rfl)) ?_
   try go_wp2
   go_meet
   case rel => exact ⟨_, (true), (by first | rfl | (simp; done) | (simp [*]; done)), H', ⟨by first | omega | exact Nat.le_refl _⟩, ⟨pB_ BKAb.out⟩, ⟨pB_ BKAa.out⟩, ⟨pH_ HB.out⟩⟩
  rw [if_neg c9] at H
  have c9b0 : decide (tAd ≤ a1_2) = false := decide_eq_false c9
  clear c9
  by_cases c12 : a1_1 < 0
  ·
   rw [if_pos c12] at H
   have c12b0 : decide (a1_1 < 0) = true := decide_eq_true c12
   clear c12
   have H' := Aside0.mk H
   clear H
   try go_wp2
   replace BKAb := Aside0.mk (blk_drew BKAb.out)
   replace BKAa := Aside0.mk (blk_drew BKAa.out)
   replace HB := Aside0.mk (below_drew1 HB.out)
   refine start_ (n := 20) (S := fun w' => w'.cell? ⟨gbAa, 0, none⟩ = some (.int .i64 a1_0) ∧ w'.cell? ⟨gbAa, 1, none⟩ = some (.int .i64 a1_1) ∧ w'.cell? ⟨gbAa, 2, none⟩ = some (.int .i64 a1_2) ∧ w'.cell? ⟨gbAa, 3, none⟩ = some (.int .i64 a1_3) ∧ w'.cell? ⟨gbAa, 4, none⟩ = some (.int .i64 a1_4) ∧ w'.cell? ⟨gbAa, 5, none⟩ = some (.slice A1_5 l1_5.length c1_5) ∧ w'.cell? ⟨gbAb, 0, none⟩ = some (.int .i64 a0_0) ∧ w'.cell? ⟨gbAb, 1, none⟩ = some (.int .i64 a0_1) ∧ w'.cell? ⟨gbAb, 2, none⟩ = some (.int .i64 a0_2) ∧ w'.cell? ⟨gbAb, 3, none⟩ = some (.int .i64 a0_3) ∧ w'.cell? ⟨gbAb, 4, none⟩ = some (.int .i64 a0_4) ∧ w'.cell? ⟨gbAb, 5, none⟩ = some (.slice A0_5 l0_5.length c0_5)) (ds := []) #[false, false, false, false, false, false, false, false, false, false, false, false, false, false, false, false, false, false, false, false] (by kernel_rfl) rfl rfl ⟨bc_ BKAa 0, bc_ BKAa 1, bc_ BKAa 2, bc_ BKAa 3, bc_ BKAa 4, bc_ BKAa 5, bc_ BKAb 0, bc_ BKAb 1, bc_ BKAb 2, bc_ BKAb 3, bc_ BKAb 4, bc_ BKAb 5⟩ (fun hHeld => ?_); refine with_tabW plaitingref5_Check.tab1 plaitingref5_Check.bits1 (fun HT_ HW_ => ?_)
   generalize w5.drew = w13 at BKAb BKAa HB hHeld ⊢
   refine pq_ 0 6 HT_ ?_
   refine tq_ 1 7 HT_ HW_ hHeld ?_
   refine pq_ 2 8 HT_ ?_
   refine pq_ 3 9 HT_ ?_
   refine pq_ 4 10 HT_ ?_
   refine tq_ 5 11 HT_ HW_ hHeld ?_
   refine tq_ 6 12 HT_ HW_ hHeld ?_
   refine oq_ 7 13 HT_ (fun K hK => ?_)
   refine gs_ Try.func25 #[.agg #[.int .i64 a0_0, .int .i64 a0_1, .int .i64 a0_2, .int .i64 a0_3, .int .i64 a0_4, .slice A0_5 l0_5.length c0_5]] ?_
   with_reducible refine (plaitingref3_Slots.calls a0_0 a0_1 a0_2 a0_3 a0_4 _ _ l0_5 tAd _ ?side1 ?side2 A8.out).mono ?_
   (case side1 => exact cC_ (Kd.C_below HR0_5.out HB.out))
   (case side2 => exact HC0_5.out)
   rintro e w14 ⟨rfl, hb⟩
   refine ⟨_, rfl, ?_⟩
   replace BKAb := bb_ BKAb hb
   replace BKAa := bb_ BKAa hb
   replace HB := bs_ HB hb
   (try clear hb)
   (try clear hb2)
   (try clear hk)
   (try clear hi)
   refine hK.out _ _ ⟨bc_ BKAa 0, bc_ BKAa 1, bc_ BKAa 2, bc_ BKAa 3, bc_ BKAa 4, bc_ BKAa 5, bc_ BKAb 0, bc_ BKAb 1, bc_ BKAb 2, bc_ BKAb 3, bc_ BKAb 4, bc_ BKAb 5⟩ (fun hHeld => ?_)
   clear hK K
   refine nq_ 13 ?_
   refine pq_ 8 14 HT_ ?_
   refine pq_ 9 15 HT_ ?_
   refine pq_ 10 16 HT_ ?_
   refine pq_ 11 17 HT_ ?_
   refine tq_ 12 18 HT_ HW_ hHeld ?_
   refine pq_ 13 19 HT_ ?_
   refine pq_ 14 20 HT_ ?_
   refine pq_ 15 21 HT_ ?_
   refine pu_ 16 22 HT_ ?_
   refine pu_ 17 23 HT_ ?_
   refine pu_ 18 24 HT_ ?_
   refine pq_ 19 25 HT_ ?_
   refine done_ (done_of HT_.out (by kernel_rfl)) ?_
   try go_wp2
   go_meet
   case rel => exact ⟨_, (true), (by first | rfl | (simp; done) | (simp [*]; done)), H', ⟨by first | omega | exact Nat.le_refl _⟩, ⟨pB_ BKAb.out⟩, ⟨pB_ BKAa.out⟩, ⟨pH_ HB.out⟩⟩
  rw [if_neg c12] at H
  have c12b0 : decide (a1_1 < 0) = false := decide_eq_false c12
  clear c12
  have H' := Aside0.mk H
  clear H
  try go_wp2
  replace BKAb := Aside0.mk (blk_drew BKAb.out)
  replace BKAa := Aside0.mk (blk_drew BKAa.out)
  replace HB := Aside0.mk (below_drew1 HB.out)
  refine start_ (n := 20) (S := fun w' => w'.cell? ⟨gbAa, 0, none⟩ = some (.int .i64 a1_0) ∧ w'.cell? ⟨gbAa, 1, none⟩ = some (.int .i64 a1_1) ∧ w'.cell? ⟨gbAa, 2, none⟩ = some (.int .i64 a1_2) ∧ w'.cell? ⟨gbAa, 3, none⟩ = some (.int .i64 a1_3) ∧ w'.cell? ⟨gbAa, 4, none⟩ = some (.int .i64 a1_4) ∧ w'.cell? ⟨gbAa, 5, none⟩ = some (.slice A1_5 l1_5.length c1_5) ∧ w'.cell? ⟨gbAb, 0, none⟩ = some (.int .i64 a0_0) ∧ w'.cell? ⟨gbAb, 1, none⟩ = some (.int .i64 a0_1) ∧ w'.cell? ⟨gbAb, 2, none⟩ = some (.int .i64 a0_2) ∧ w'.cell? ⟨gbAb, 3, none⟩ = some (.int .i64 a0_3) ∧ w'.cell? ⟨gbAb, 4, none⟩ = some (.int .i64 a0_4) ∧ w'.cell? ⟨gbAb, 5, none⟩ = some (.slice A0_5 l0_5.length c0_5)) (ds := []) #[false, false, false, false, false, false, false, false, false, false, false, false, false, false, false, false, false, false, false, false] (by kernel_rfl) rfl rfl ⟨bc_ BKAa 0, bc_ BKAa 1, bc_ BKAa 2, bc_ BKAa 3, bc_ BKAa 4, bc_ BKAa 5, bc_ BKAb 0, bc_ BKAb 1, bc_ BKAb 2, bc_ BKAb 3, bc_ BKAb 4, bc_ BKAb 5⟩ (fun hHeld => ?_); refine with_tabW plaitingref5_Check.tab1 plaitingref5_Check.bits1 (fun HT_ HW_ => ?_)
  generalize w5.drew = w15 at BKAb BKAa HB hHeld ⊢
  refine pq_ 0 6 HT_ ?_
  refine tq_ 1 7 HT_ HW_ hHeld ?_
  refine pq_ 2 8 HT_ ?_
  refine pq_ 3 9 HT_ ?_
  refine pq_ 4 10 HT_ ?_
  refine tq_ 5 11 HT_ HW_ hHeld ?_
  refine tq_ 6 12 HT_ HW_ hHeld ?_
  refine oq_ 7 13 HT_ (fun K hK => ?_)
  refine gs_ Try.func25 #[.agg #[.int .i64 a0_0, .int .i64 a0_1, .int .i64 a0_2, .int .i64 a0_3, .int .i64 a0_4, .slice A0_5 l0_5.length c0_5]] ?_
  with_reducible refine (plaitingref3_Slots.calls a0_0 a0_1 a0_2 a0_3 a0_4 _ _ l0_5 tAd _ ?side1 ?side2 A8.out).mono ?_
  (case side1 => exact cC_ (Kd.C_below HR0_5.out HB.out))
  (case side2 => exact HC0_5.out)
  rintro e w16 ⟨rfl, hb⟩
  refine ⟨_, rfl, ?_⟩
  replace BKAb := bb_ BKAb hb
  replace BKAa := bb_ BKAa hb
  replace HB := bs_ HB hb
  (try clear hb)
  (try clear hb2)
  (try clear hk)
  (try clear hi)
  refine hK.out _ _ ⟨bc_ BKAa 0, bc_ BKAa 1, bc_ BKAa 2, bc_ BKAa 3, bc_ BKAa 4, bc_ BKAa 5, bc_ BKAb 0, bc_ BKAb 1, bc_ BKAb 2, bc_ BKAb 3, bc_ BKAb 4, bc_ BKAb 5⟩ (fun hHeld => ?_)
  clear hK K
  refine nq_ 13 ?_
  refine pq_ 8 14 HT_ ?_
  refine pq_ 9 15 HT_ ?_
  refine pq_ 10 16 HT_ ?_
  refine pq_ 11 17 HT_ ?_
  refine tq_ 12 18 HT_ HW_ hHeld ?_
  refine pq_ 13 19 HT_ ?_
  refine pq_ 14 20 HT_ ?_
  refine pq_ 15 21 HT_ ?_
  refine pq_ 16 22 HT_ ?_
  refine tq_ 17 23 HT_ HW_ hHeld ?_
  refine pq_ 18 24 HT_ ?_
  refine pq_ 19 25 HT_ ?_
  refine done_ (done_of HT_.out (by kernel_rfl)) ?_
  try go_wp2
  go_meet
  case rel => exact ⟨_, (decide (a1_1 ≥ 65536)), (by first | rfl | (simp; done) | (simp [*]; done)), H', ⟨by first | omega | exact Nat.le_refl _⟩, ⟨pB_ BKAb.out⟩, ⟨pB_ BKAa.out⟩, ⟨pH_ HB.out⟩⟩
 case rest =>
  clear HC3
  try clear c1
  try clear c2
  try clear p2
  try clear c6
  try clear c6b0
  try clear c9
  try clear c9b0
  try clear c12
  try clear c12b0
  obtain ⟨kq, x25_2, rfl, HA, HJ2, BKAb, BKAa, HB⟩ := hcut
  cases kq with
  | zero => exact absurd HA.out (by simp [plaitingref5_Check.j0])
  | succ kj2 =>
   have H := HA.out
   clear HA
   simp only [plaitingref5_Check.j0] at H
   by_cases c17 : x25_2 = true
   ·
    subst c17
    have H1 : (some 1) = some r := by rw [if_pos rfl] at H; exact H
    clear H
    have H := H1
    clear H1
    obtain rfl := Option.some.inj H
    go_wp2
    go_ret
    exact ⟨by first | rfl | (simp [errW_none, errW_some] <;> rfl) | (simp [*, errW_none, errW_some] <;> rfl), pH_ HB.out⟩
   replace c17 := Bool.eq_false_iff.mpr c17
   subst c17
   have H1 : (if a1_0 < 1 then (plaitingref5_Check.j1 kj2 true a0_0 a0_1 a0_2 a0_3 a0_4 l0_5 a1_0 a1_1 a1_2 a1_3 a1_4 l1_5) else (if a1_0 > 3 then (plaitingref5_Check.j1 kj2 true a0_0 a0_1 a0_2 a0_3 a0_4 l0_5 a1_0 a1_1 a1_2 a1_3 a1_4 l1_5) else (if a1_0 = 3 then (plaitingref5_Check.j1 kj2 false a0_0 a0_1 a0_2 a0_3 a0_4 l0_5 a1_0 a1_1 a1_2 a1_3 a1_4 l1_5) else (plaitingref5_Check.j1 kj2 (decide (a1_2 ≥ a0_0)) a0_0 a0_1 a0_2 a0_3 a0_4 l0_5 a1_0 a1_1 a1_2 a1_3 a1_4 l1_5)))) = some r := by rw [if_neg (show ¬ (false = true) by decide)] at H; exact H
   clear H
   have H := H1
   clear H1
   have HC18 := Aside0.mk H
   clear H
   go_upto_region 3 with (fail)
   go_cut [45] (fun v45 wc => ∃ (kq : Nat) (x45_17 : Bool), v45 = .bool x45_17 ∧ Aside0 (plaitingref5_Check.j1 kq x45_17 a0_0 a0_1 a0_2 a0_3 a0_4 l0_5 a1_0 a1_1 a1_2 a1_3 a1_4 l1_5 = some r) ∧ Aside0 (kq ≤ kj2) ∧ Aside0 (wc.heap[gbAb]? = some (.cells #[.int .i64 a0_0, .int .i64 a0_1, .int .i64 a0_2, .int .i64 a0_3, .int .i64 a0_4, (.slice A0_5 l0_5.length c0_5)] 24 (0, 0))) ∧ Aside0 (wc.heap[gbAa]? = some (.cells #[.int .i64 a1_0, .int .i64 a1_1, .int .i64 a1_2, .int .i64 a1_3, .int .i64 a1_4, (.slice A1_5 l1_5.length c1_5)] 29 (0, 0))) ∧ Aside0 (Below w.heap.size w wc))
   case first =>
    have H := HC18.out
    clear HC18
    by_cases c19 : a1_0 < 1
    ·
     rw [if_pos c19] at H
     have c19b0 : decide (a1_0 < 1) = true := decide_eq_true c19
     clear c19
     (first | rw [c19b0] | (simp only [i64_w, i32_w]; rw [c19b0]) | skip)
     have H' := Aside0.mk H
     clear H
     have hnb20 := NBAa_Ab.out
     have hnc20 := NBAb_Aa.out
     obtain ⟨hcz21_0, hcz21_1, hcz21_2, hcz21_3, hcz21_4, hcz21_5⟩ := c6_ BKAa
     obtain ⟨hfz21_0, hfz21_1, hfz21_2, hfz21_3, hfz21_4, hfz21_5⟩ := f6_ BKAa
     go_wp2
     go_meet
     case rel => exact ⟨_, (true), (by first | rfl | (simp; done) | (simp [*]; done)), H', ⟨by have := HJ2.out; first | omega | exact Nat.le_refl _⟩, ⟨pB_ BKAb.out⟩, ⟨pB_ BKAa.out⟩, ⟨pH_ HB.out⟩⟩
    rw [if_neg c19] at H
    have c19b0 : decide (a1_0 < 1) = false := decide_eq_false c19
    clear c19
    (first | rw [c19b0] | (simp only [i64_w, i32_w]; rw [c19b0]) | skip)
    by_cases c22 : a1_0 > 3
    ·
     rw [if_pos c22] at H
     have c22b0 : decide (3 < a1_0) = true := decide_eq_true c22
     clear c22
     have H' := Aside0.mk H
     clear H
     have hnb23 := NBAa_Ab.out
     have hnc23 := NBAb_Aa.out
     obtain ⟨hcz24_0, hcz24_1, hcz24_2, hcz24_3, hcz24_4, hcz24_5⟩ := c6_ BKAa
     obtain ⟨hfz24_0, hfz24_1, hfz24_2, hfz24_3, hfz24_4, hfz24_5⟩ := f6_ BKAa
     go_wp2
     go_meet
     case rel => exact ⟨_, (true), (by first | rfl | (simp; done) | (simp [*]; done)), H', ⟨by have := HJ2.out; first | omega | exact Nat.le_refl _⟩, ⟨pB_ BKAb.out⟩, ⟨pB_ BKAa.out⟩, ⟨pH_ HB.out⟩⟩
    rw [if_neg c22] at H
    have c22b0 : decide (3 < a1_0) = false := decide_eq_false c22
    clear c22
    by_cases c25 : a1_0 = 3
    ·
     rw [if_pos c25] at H
     have c25b0 : (a1_0 == 3) = true := beq_iff_eq.mpr c25
     have c25b1 : (a1_0 != 3) = false := bne_eq_false_iff_eq.mpr c25
     clear c25
     have H' := Aside0.mk H
     clear H
     have hnb26 := NBAa_Ab.out
     have hnc26 := NBAb_Aa.out
     obtain ⟨hcz27_0, hcz27_1, hcz27_2, hcz27_3, hcz27_4, hcz27_5⟩ := c6_ BKAa
     obtain ⟨hfz27_0, hfz27_1, hfz27_2, hfz27_3, hfz27_4, hfz27_5⟩ := f6_ BKAa
     go_wp2
     go_meet
     case rel => exact ⟨_, (false), (by first | rfl | (simp; done) | (simp [*]; done)), H', ⟨by have := HJ2.out; first | omega | exact Nat.le_refl _⟩, ⟨pB_ BKAb.out⟩, ⟨pB_ BKAa.out⟩, ⟨pH_ HB.out⟩⟩
    rw [if_neg c25] at H
    have c25b0 : (a1_0 == 3) = false := beq_eq_false_iff_ne.mpr c25
    have c25b1 : (a1_0 != 3) = true := bne_iff_ne.mpr c25
    have H' := Aside0.mk H
    clear H
    have hnb28 := NBAa_Ab.out
    have hnc28 := NBAb_Aa.out
    obtain ⟨hcz29_0, hcz29_1, hcz29_2, hcz29_3, hcz29_4, hcz29_5⟩ := c6_ BKAa
    obtain ⟨hfz29_0, hfz29_1, hfz29_2, hfz29_3, hfz29_4, hfz29_5⟩ := f6_ BKAa
    obtain ⟨hcz30_0, hcz30_1, hcz30_2, hcz30_3, hcz30_4, hcz30_5⟩ := c6_ BKAb
    obtain ⟨hfz30_0, hfz30_1, hfz30_2, hfz30_3, hfz30_4, hfz30_5⟩ := f6_ BKAb
    go_wp2
    go_meet
    case rel => exact ⟨_, (decide (a1_2 ≥ a0_0)), (by first | rfl | (simp; done) | (simp [*]; done)), H', ⟨by have := HJ2.out; first | omega | exact Nat.le_refl _⟩, ⟨pB_ BKAb.out⟩, ⟨pB_ BKAa.out⟩, ⟨pH_ HB.out⟩⟩
   case rest =>
    clear HC18
    try clear c1
    try clear c2
    try clear p2
    try clear c6
    try clear c6b0
    try clear c9
    try clear c9b0
    try clear c12
    try clear c12b0
    try clear c17
    try clear c19
    try clear c19b0
    try clear c20
    try clear c22
    try clear c22b0
    try clear c23
    try clear c25
    try clear c25b0
    try clear c25b1
    try clear c26
    try clear c28
    try clear hcz21_0 hcz21_1 hcz21_2 hcz21_3 hcz21_4 hcz21_5
    try clear hcz24_0 hcz24_1 hcz24_2 hcz24_3 hcz24_4 hcz24_5
    try clear hcz27_0 hcz27_1 hcz27_2 hcz27_3 hcz27_4 hcz27_5
    try clear hcz29_0 hcz29_1 hcz29_2 hcz29_3 hcz29_4 hcz29_5
    try clear hcz30_0 hcz30_1 hcz30_2 hcz30_3 hcz30_4 hcz30_5
    try clear hfz21_0 hfz21_1 hfz21_2 hfz21_3 hfz21_4 hfz21_5
    try clear hfz24_0 hfz24_1 hfz24_2 hfz24_3 hfz24_4 hfz24_5
    try clear hfz27_0 hfz27_1 hfz27_2 hfz27_3 hfz27_4 hfz27_5
    try clear hfz29_0 hfz29_1 hfz29_2 hfz29_3 hfz29_4 hfz29_5
    try clear hfz30_0 hfz30_1 hfz30_2 hfz30_3 hfz30_4 hfz30_5
    try clear p2
    obtain ⟨kq, x45_17, rfl, HA, HJ17, BKAb, BKAa, HB⟩ := hcut
    cases kq with
    | zero => exact absurd HA.out (by simp [plaitingref5_Check.j1])
    | succ kj17 =>
     have H := HA.out
     clear HA
     simp only [plaitingref5_Check.j1] at H
     by_cases c31 : x45_17 = true
     ·
      subst c31
      have H1 : (some 6) = some r := by rw [if_pos rfl] at H; exact H
      clear H
      have H := H1
      clear H1
      obtain rfl := Option.some.inj H
      go_wp2
      go_ret
      exact ⟨by first | rfl | (simp [errW_none, errW_some] <;> rfl) | (simp [*, errW_none, errW_some] <;> rfl), pH_ HB.out⟩
     replace c31 := Bool.eq_false_iff.mpr c31
     subst c31
     have H1 : ((plaitingref5_item.f a1_3 a1_4 (a1_0 == 3)).bind fun tBd => (if tBd = true then (if a1_0 = 3 then (plaitingref5_Check.j2 kj17 false a0_0 a0_1 a0_2 a0_3 a0_4 l0_5 a1_0 a1_1 a1_2 a1_3 a1_4 l1_5) else (plaitingref5_Check.j2 kj17 (a1_3 != 0) a0_0 a0_1 a0_2 a0_3 a0_4 l0_5 a1_0 a1_1 a1_2 a1_3 a1_4 l1_5)) else (plaitingref5_Check.j2 kj17 true a0_0 a0_1 a0_2 a0_3 a0_4 l0_5 a1_0 a1_1 a1_2 a1_3 a1_4 l1_5))) = some r := by rw [if_neg (show ¬ (false = true) by decide)] at H; exact H
     clear H
     have H := H1
     clear H1
     have HC32 := Aside0.mk H
     clear H
     go_upto_region 5 with (fail)
     go_cut [63] (fun v63 wc => ∃ (kq : Nat) (x63_31 : Bool), v63 = .bool x63_31 ∧ Aside0 (plaitingref5_Check.j2 kq x63_31 a0_0 a0_1 a0_2 a0_3 a0_4 l0_5 a1_0 a1_1 a1_2 a1_3 a1_4 l1_5 = some r) ∧ Aside0 (kq ≤ kj17) ∧ Aside0 (wc.heap[gbAb]? = some (.cells #[.int .i64 a0_0, .int .i64 a0_1, .int .i64 a0_2, .int .i64 a0_3, .int .i64 a0_4, (.slice A0_5 l0_5.length c0_5)] 24 (0, 0))) ∧ Aside0 (wc.heap[gbAa]? = some (.cells #[.int .i64 a1_0, .int .i64 a1_1, .int .i64 a1_2, .int .i64 a1_3, .int .i64 a1_4, (.slice A1_5 l1_5.length c1_5)] 29 (0, 0))) ∧ Aside0 (Below w.heap.size w wc))
     case first =>
      have H := HC32.out
      clear HC32
      replace H := Option.bind_eq_some_iff.mp H
      obtain ⟨tBd, A330, H⟩ := H
      try dsimp only at H
      have A33 := Aside0.mk A330
      clear A330
      by_cases c34 : tBd = true
      ·
       subst c34
       have H1 : (if a1_0 = 3 then (plaitingref5_Check.j2 kj17 false a0_0 a0_1 a0_2 a0_3 a0_4 l0_5 a1_0 a1_1 a1_2 a1_3 a1_4 l1_5) else (plaitingref5_Check.j2 kj17 (a1_3 != 0) a0_0 a0_1 a0_2 a0_3 a0_4 l0_5 a1_0 a1_1 a1_2 a1_3 a1_4 l1_5)) = some r := by rw [if_pos rfl] at H; exact H
       clear H
       have H := H1
       clear H1
       by_cases c35 : a1_0 = 3
       ·
        rw [if_pos c35] at H
        have c35b0 : (a1_0 == 3) = true := beq_iff_eq.mpr c35
        have c35b1 : (a1_0 != 3) = false := bne_eq_false_iff_eq.mpr c35
        clear c35
        (first | rw [c35b0] | (simp only [i64_w, i32_w]; rw [c35b0]) | skip)
        have H' := Aside0.mk H
        clear H
        have hnb36 := NBAa_Ab.out
        have hnc36 := NBAb_Aa.out
        obtain ⟨hcz37_0, hcz37_1, hcz37_2, hcz37_3, hcz37_4, hcz37_5⟩ := c6_ BKAa
        obtain ⟨hfz37_0, hfz37_1, hfz37_2, hfz37_3, hfz37_4, hfz37_5⟩ := f6_ BKAa
        go_wp2_with (first | ((with_reducible refine gate_callee (f := 53) rfl ?_); refine gL_ 51 Try.func53 #[.agg #[.int .i64 a1_3, .int .i64 a1_4], .bool true] ?_; (with_reducible refine (plaitingref5_item.calls a1_3 a1_4 true true _ (by have hq_ := A33.out; rw [c35b0] at hq_; exact hq_)).mono ?_); rintro e w38 ⟨rfl, hb⟩; refine ⟨_, rfl, ?_⟩; replace BKAb := bb_ BKAb hb; replace BKAa := bb_ BKAa hb; replace HB := bs_ HB hb; (try clear hb); (try clear hb2); (try clear hk); (try clear hi); obtain ⟨hcz39_0, hcz39_1, hcz39_2, hcz39_3, hcz39_4, hcz39_5⟩ := c6_ BKAa; obtain ⟨hfz39_0, hfz39_1, hfz39_2, hfz39_3, hfz39_4, hfz39_5⟩ := f6_ BKAa))
        go_meet
        case rel => exact ⟨_, (false), (by first | rfl | (simp; done) | (simp [*]; done)), H', ⟨by have := HJ2.out; have := HJ17.out; first | omega | exact Nat.le_refl _⟩, ⟨pB_ BKAb.out⟩, ⟨pB_ BKAa.out⟩, ⟨pH_ HB.out⟩⟩
       rw [if_neg c35] at H
       have c35b0 : (a1_0 == 3) = false := beq_eq_false_iff_ne.mpr c35
       have c35b1 : (a1_0 != 3) = true := bne_iff_ne.mpr c35
       (first | rw [c35b0] | (simp only [i64_w, i32_w]; rw [c35b0]) | skip)
       have H' := Aside0.mk H
       clear H
       have hnb40 := NBAa_Ab.out
       have hnc40 := NBAb_Aa.out
       obtain ⟨hcz41_0, hcz41_1, hcz41_2, hcz41_3, hcz41_4, hcz41_5⟩ := c6_ BKAa
       obtain ⟨hfz41_0, hfz41_1, hfz41_2, hfz41_3, hfz41_4, hfz41_5⟩ := f6_ BKAa
       go_wp2_with (first | ((with_reducible refine gate_callee (f := 53) rfl ?_); refine gL_ 51 Try.func53 #[.agg #[.int .i64 a1_3, .int .i64 a1_4], .bool false] ?_; (with_reducible refine (plaitingref5_item.calls a1_3 a1_4 false true _ (by have hq_ := A33.out; rw [c35b0] at hq_; exact hq_)).mono ?_); rintro e w42 ⟨rfl, hb⟩; refine ⟨_, rfl, ?_⟩; replace BKAb := bb_ BKAb hb; replace BKAa := bb_ BKAa hb; replace HB := bs_ HB hb; (try clear hb); (try clear hb2); (try clear hk); (try clear hi); obtain ⟨hcz43_0, hcz43_1, hcz43_2, hcz43_3, hcz43_4, hcz43_5⟩ := c6_ BKAa; obtain ⟨hfz43_0, hfz43_1, hfz43_2, hfz43_3, hfz43_4, hfz43_5⟩ := f6_ BKAa))
       go_meet
       case rel => exact ⟨_, ((a1_3 != 0)), (by first | rfl | (simp; done) | (simp [*]; done)), H', ⟨by have := HJ2.out; have := HJ17.out; first | omega | exact Nat.le_refl _⟩, ⟨pB_ BKAb.out⟩, ⟨pB_ BKAa.out⟩, ⟨pH_ HB.out⟩⟩
      replace c34 := Bool.eq_false_iff.mpr c34
      subst c34
      have H1 : (plaitingref5_Check.j2 kj17 true a0_0 a0_1 a0_2 a0_3 a0_4 l0_5 a1_0 a1_1 a1_2 a1_3 a1_4 l1_5) = some r := by rw [if_neg (show ¬ (false = true) by decide)] at H; exact H
      clear H
      have H := H1
      clear H1
      have H' := Aside0.mk H
      clear H
      have hnb44 := NBAa_Ab.out
      have hnc44 := NBAb_Aa.out
      obtain ⟨hcz45_0, hcz45_1, hcz45_2, hcz45_3, hcz45_4, hcz45_5⟩ := c6_ BKAa
      obtain ⟨hfz45_0, hfz45_1, hfz45_2, hfz45_3, hfz45_4, hfz45_5⟩ := f6_ BKAa
      go_wp2_with (first | ((with_reducible refine gate_callee (f := 53) rfl ?_); refine gL_ 51 Try.func53 #[.agg #[.int .i64 a1_3, .int .i64 a1_4], .bool (a1_0 == 3)] ?_; (with_reducible refine (plaitingref5_item.calls a1_3 a1_4 (a1_0 == 3) false _ A33.out).mono ?_); rintro e w46 ⟨rfl, hb⟩; refine ⟨_, rfl, ?_⟩; replace BKAb := bb_ BKAb hb; replace BKAa := bb_ BKAa hb; replace HB := bs_ HB hb; (try clear hb); (try clear hb2); (try clear hk); (try clear hi)))
      go_meet
      case rel => exact ⟨_, (true), (by first | rfl | (simp; done) | (simp [*]; done)), H', ⟨by have := HJ2.out; have := HJ17.out; first | omega | exact Nat.le_refl _⟩, ⟨pB_ BKAb.out⟩, ⟨pB_ BKAa.out⟩, ⟨pH_ HB.out⟩⟩
     case rest =>
      clear HC32
      try clear c1
      try clear c2
      try clear p2
      try clear c3
      try clear c4
      try clear c5
      try clear c6
      try clear c6b0
      try clear c9
      try clear c9b0
      try clear c12
      try clear c12b0
      try clear c17
      try clear c19
      try clear c19b0
      try clear c20
      try clear c22
      try clear c22b0
      try clear c23
      try clear c25
      try clear c25b0
      try clear c25b1
      try clear c26
      try clear c28
      try clear c31
      try clear c34
      try clear c35
      try clear c35b0
      try clear c35b1
      try clear c36
      try clear c40
      try clear c44
      try clear hcz21_0 hcz21_1 hcz21_2 hcz21_3 hcz21_4 hcz21_5
      try clear hcz24_0 hcz24_1 hcz24_2 hcz24_3 hcz24_4 hcz24_5
      try clear hcz27_0 hcz27_1 hcz27_2 hcz27_3 hcz27_4 hcz27_5
      try clear hcz29_0 hcz29_1 hcz29_2 hcz29_3 hcz29_4 hcz29_5
      try clear hcz30_0 hcz30_1 hcz30_2 hcz30_3 hcz30_4 hcz30_5
      try clear hcz37_0 hcz37_1 hcz37_2 hcz37_3 hcz37_4 hcz37_5
      try clear hcz39_0 hcz39_1 hcz39_2 hcz39_3 hcz39_4 hcz39_5
      try clear hcz41_0 hcz41_1 hcz41_2 hcz41_3 hcz41_4 hcz41_5
      try clear hcz43_0 hcz43_1 hcz43_2 hcz43_3 hcz43_4 hcz43_5
      try clear hcz45_0 hcz45_1 hcz45_2 hcz45_3 hcz45_4 hcz45_5
      try clear hfz21_0 hfz21_1 hfz21_2 hfz21_3 hfz21_4 hfz21_5
      try clear hfz24_0 hfz24_1 hfz24_2 hfz24_3 hfz24_4 hfz24_5
      try clear hfz27_0 hfz27_1 hfz27_2 hfz27_3 hfz27_4 hfz27_5
      try clear hfz29_0 hfz29_1 hfz29_2 hfz29_3 hfz29_4 hfz29_5
      try clear hfz30_0 hfz30_1 hfz30_2 hfz30_3 hfz30_4 hfz30_5
      try clear hfz37_0 hfz37_1 hfz37_2 hfz37_3 hfz37_4 hfz37_5
      try clear hfz39_0 hfz39_1 hfz39_2 hfz39_3 hfz39_4 hfz39_5
      try clear hfz41_0 hfz41_1 hfz41_2 hfz41_3 hfz41_4 hfz41_5
      try clear hfz43_0 hfz43_1 hfz43_2 hfz43_3 hfz43_4 hfz43_5
      try clear hfz45_0 hfz45_1 hfz45_2 hfz45_3 hfz45_4 hfz45_5
      try clear p2
      obtain ⟨kq, x63_31, rfl, HA, HJ31, BKAb, BKAa, HB⟩ := hcut
      cases kq with
      | zero => exact absurd HA.out (by simp [plaitingref5_Check.j2])
      | succ kj31 =>
       have H := HA.out
       clear HA
       simp only [plaitingref5_Check.j2] at H
       by_cases c47 : x63_31 = true
       ·
        subst c47
        have H1 : (some 1) = some r := by rw [if_pos rfl] at H; exact H
        clear H
        have H := H1
        clear H1
        obtain rfl := Option.some.inj H
        go_wp2
        go_ret
        exact ⟨by first | rfl | (simp [errW_none, errW_some] <;> rfl) | (simp [*, errW_none, errW_some] <;> rfl), pH_ HB.out⟩
       replace c47 := Bool.eq_false_iff.mpr c47
       subst c47
       have H1 : ((plaitingref5_echoes.f a0_0 a0_1 a0_2 a0_3 a0_4 l0_5 a1_0 a1_2).bind fun tAw => (if (l1_5.length : Int) = tAw then (plaitingref5_Check.l0 kj31 0 a1_0 a1_1 a1_2 a1_3 a1_4 l1_5) else (some 2))) = some r := by rw [if_neg (show ¬ (false = true) by decide)] at H; exact H
       clear H
       have H := H1
       clear H1
       replace H := Option.bind_eq_some_iff.mp H
       obtain ⟨tAw, A480, H⟩ := H
       try dsimp only at H
       have A48 := Aside0.mk A480
       clear A480
       by_cases c49 : (l1_5.length : Int) = tAw
       ·
        rw [if_pos c49] at H
        have c49b0 : ((l1_5.length : Int) == tAw) = true := beq_iff_eq.mpr c49
        have c49b1 : ((l1_5.length : Int) != tAw) = false := bne_eq_false_iff_eq.mpr c49
        clear c49
        have H' := Aside0.mk H
        clear H
        try go_wp2
        replace BKAb := Aside0.mk (blk_drew BKAb.out)
        replace BKAa := Aside0.mk (blk_drew BKAa.out)
        replace HB := Aside0.mk (below_drew1 HB.out)
        refine start_ (n := 10) (S := fun w' => w'.cell? ⟨gbAa, 0, none⟩ = some (.int .i64 a1_0) ∧ w'.cell? ⟨gbAa, 1, none⟩ = some (.int .i64 a1_1) ∧ w'.cell? ⟨gbAa, 2, none⟩ = some (.int .i64 a1_2) ∧ w'.cell? ⟨gbAa, 3, none⟩ = some (.int .i64 a1_3) ∧ w'.cell? ⟨gbAa, 4, none⟩ = some (.int .i64 a1_4) ∧ w'.cell? ⟨gbAa, 5, none⟩ = some (.slice A1_5 l1_5.length c1_5) ∧ w'.cell? ⟨gbAb, 0, none⟩ = some (.int .i64 a0_0) ∧ w'.cell? ⟨gbAb, 1, none⟩ = some (.int .i64 a0_1) ∧ w'.cell? ⟨gbAb, 2, none⟩ = some (.int .i64 a0_2) ∧ w'.cell? ⟨gbAb, 3, none⟩ = some (.int .i64 a0_3) ∧ w'.cell? ⟨gbAb, 4, none⟩ = some (.int .i64 a0_4) ∧ w'.cell? ⟨gbAb, 5, none⟩ = some (.slice A0_5 l0_5.length c0_5)) (ds := []) #[false, false, false, false, false, false, false, false, false, false] (by kernel_rfl) rfl rfl ⟨bc_ BKAa 0, bc_ BKAa 1, bc_ BKAa 2, bc_ BKAa 3, bc_ BKAa 4, bc_ BKAa 5, bc_ BKAb 0, bc_ BKAb 1, bc_ BKAb 2, bc_ BKAb 3, bc_ BKAb 4, bc_ BKAb 5⟩ (fun hHeld => ?_); refine with_tabW plaitingref5_Check.tab7 plaitingref5_Check.bits7 (fun HT_ HW_ => ?_)
        generalize wc.drew = w50 at BKAb BKAa HB hHeld ⊢
        refine pq_ 0 64 HT_ ?_
        refine pq_ 4 68 HT_ ?_
        refine pq_ 6 70 HT_ ?_
        refine tq_ 1 65 HT_ HW_ hHeld ?_
        refine pq_ 2 66 HT_ ?_
        refine tq_ 3 67 HT_ HW_ hHeld ?_
        refine tq_ 5 69 HT_ HW_ hHeld ?_
        refine tq_ 7 71 HT_ HW_ hHeld ?_
        refine oq_ 8 72 HT_ (fun K hK => ?_)
        refine gs_ Try.func54 #[.agg #[.int .i64 a0_0, .int .i64 a0_1, .int .i64 a0_2, .int .i64 a0_3, .int .i64 a0_4, .slice A0_5 l0_5.length c0_5], .int .i64 a1_0, .int .i64 a1_2] ?_
        with_reducible refine (plaitingref5_echoes.calls a0_0 a0_1 a0_2 a0_3 a0_4 _ _ l0_5 a1_0 a1_2 tAw _ ?side1 ?side2 A48.out).mono ?_
        (case side1 => exact cC_ (Kd.C_below HR0_5.out HB.out))
        (case side2 => exact HC0_5.out)
        rintro e w51 ⟨rfl, hb⟩
        refine ⟨_, rfl, ?_⟩
        replace BKAb := bb_ BKAb hb
        replace BKAa := bb_ BKAa hb
        replace HB := bs_ HB hb
        (try clear hb)
        (try clear hb2)
        (try clear hk)
        (try clear hi)
        refine hK.out _ _ ⟨bc_ BKAa 0, bc_ BKAa 1, bc_ BKAa 2, bc_ BKAa 3, bc_ BKAa 4, bc_ BKAa 5, bc_ BKAb 0, bc_ BKAb 1, bc_ BKAb 2, bc_ BKAb 3, bc_ BKAb 4, bc_ BKAb 5⟩ (fun hHeld => ?_)
        clear hK K
        refine nq_ 72 ?_
        refine pq_ 9 73 HT_ ?_
        refine done_ (done_of HT_.out (by kernel_rfl)) ?_
        try go_wp2
        go_loopg [5] kj31 (fun kq v5 w' => ∃ (x5_4 : Int), v5 = .int .i64 x5_4 ∧ Aside0 (plaitingref5_Check.l0 kq x5_4 a1_0 a1_1 a1_2 a1_3 a1_4 l1_5 = some r) ∧ Aside0 (kq ≤ kj31) ∧ Aside0 (w'.heap[gbAb]? = some (.cells #[.int .i64 a0_0, .int .i64 a0_1, .int .i64 a0_2, .int .i64 a0_3, .int .i64 a0_4, (.slice A0_5 l0_5.length c0_5)] 24 (0, 0))) ∧ Aside0 (w'.heap[gbAa]? = some (.cells #[.int .i64 a1_0, .int .i64 a1_1, .int .i64 a1_2, .int .i64 a1_3, .int .i64 a1_4, (.slice A1_5 l1_5.length c1_5)] 29 (0, 0))) ∧ Aside0 (Below w.heap.size w w'))
        case atStart => exact ⟨(0), (by first | rfl | (simp; done) | (simp [*]; done)), H', ⟨Nat.le_refl _⟩, ⟨pB_ BKAb.out⟩, ⟨pB_ BKAa.out⟩, ⟨pH_ HB.out⟩⟩
        case round =>
         clear H'
         try clear c1
         try clear c2
         try clear p2
         try clear c3
         try clear c4
         try clear c5
         try clear c6
         try clear c6b0
         try clear c9
         try clear c9b0
         try clear c12
         try clear c12b0
         try clear c17
         try clear c19
         try clear c19b0
         try clear c20
         try clear c22
         try clear c22b0
         try clear c23
         try clear c25
         try clear c25b0
         try clear c25b1
         try clear c26
         try clear c28
         try clear c31
         try clear c34
         try clear c35
         try clear c35b0
         try clear c35b1
         try clear c36
         try clear c40
         try clear c44
         try clear c47
         try clear c49
         try clear c49b0
         try clear c49b1
         try clear hcz21_0 hcz21_1 hcz21_2 hcz21_3 hcz21_4 hcz21_5
         try clear hcz24_0 hcz24_1 hcz24_2 hcz24_3 hcz24_4 hcz24_5
         try clear hcz27_0 hcz27_1 hcz27_2 hcz27_3 hcz27_4 hcz27_5
         try clear hcz29_0 hcz29_1 hcz29_2 hcz29_3 hcz29_4 hcz29_5
         try clear hcz30_0 hcz30_1 hcz30_2 hcz30_3 hcz30_4 hcz30_5
         try clear hcz37_0 hcz37_1 hcz37_2 hcz37_3 hcz37_4 hcz37_5
         try clear hcz39_0 hcz39_1 hcz39_2 hcz39_3 hcz39_4 hcz39_5
         try clear hcz41_0 hcz41_1 hcz41_2 hcz41_3 hcz41_4 hcz41_5
         try clear hcz43_0 hcz43_1 hcz43_2 hcz43_3 hcz43_4 hcz43_5
         try clear hcz45_0 hcz45_1 hcz45_2 hcz45_3 hcz45_4 hcz45_5
         try clear hfz21_0 hfz21_1 hfz21_2 hfz21_3 hfz21_4 hfz21_5
         try clear hfz24_0 hfz24_1 hfz24_2 hfz24_3 hfz24_4 hfz24_5
         try clear hfz27_0 hfz27_1 hfz27_2 hfz27_3 hfz27_4 hfz27_5
         try clear hfz29_0 hfz29_1 hfz29_2 hfz29_3 hfz29_4 hfz29_5
         try clear hfz30_0 hfz30_1 hfz30_2 hfz30_3 hfz30_4 hfz30_5
         try clear hfz37_0 hfz37_1 hfz37_2 hfz37_3 hfz37_4 hfz37_5
         try clear hfz39_0 hfz39_1 hfz39_2 hfz39_3 hfz39_4 hfz39_5
         try clear hfz41_0 hfz41_1 hfz41_2 hfz41_3 hfz41_4 hfz41_5
         try clear hfz43_0 hfz43_1 hfz43_2 hfz43_3 hfz43_4 hfz43_5
         try clear hfz45_0 hfz45_1 hfz45_2 hfz45_3 hfz45_4 hfz45_5
         try clear p2
         obtain ⟨x5_4, rfl, HA, HK4, BKAb, BKAa, HB⟩ := hrel
         cases gk with
         | zero => exact absurd HA.out (by simp [plaitingref5_Check.l0])
         | succ k4 =>
          have H := HA.out
          clear HA
          simp only [plaitingref5_Check.l0] at H
          by_cases c52 : x5_4 < (l1_5.length : Int)
          ·
           rw [if_pos c52] at H
           have c52b0 : decide (x5_4 < (l1_5.length : Int)) = true := decide_eq_true c52
           clear c52
           by_cases c53 : 0 ≤ x5_4
           rotate_left
           ·
            rw [if_neg c53] at H
            exact absurd H (by simp)
           rw [if_pos c53] at H
           have c53b0 : decide (0 ≤ x5_4) = true := decide_eq_true c53
           clear c53
           replace H := Option.bind_eq_some_iff.mp H
           obtain ⟨tBf, A540, H⟩ := H
           try dsimp only at H
           have A54 := Aside0.mk A540
           clear A540
           by_cases c55 : tBf = true
           ·
            subst c55
            have H1 : (plaitingref5_Check.l0 k4 (wrap64 (x5_4 + 1)) a1_0 a1_1 a1_2 a1_3 a1_4 l1_5) = some r := by rw [if_pos rfl] at H; exact H
            clear H
            have H := H1
            clear H1
            have H' := Aside0.mk H
            clear H
            have hnb56 := NBAa_Ab.out
            have hnc56 := NBAb_Aa.out
            obtain ⟨hcz57_0, hcz57_1, hcz57_2, hcz57_3, hcz57_4, hcz57_5⟩ := c6_ BKAa
            obtain ⟨hfz57_0, hfz57_1, hfz57_2, hfz57_3, hfz57_4, hfz57_5⟩ := f6_ BKAa
            have pAh : 0 ≤ (x5_4 : Int) := of_decide_eq_true (by first | (with_reducible assumption) | assumption)
            have qAh : x5_4 < (l1_5.length : Int) := of_decide_eq_true (by first | (with_reducible assumption) | assumption)
            obtain ⟨adAh, eAh, hxAh_0, hxAh_1⟩ := at_T26 HR1_5.out x5_4 pAh qAh
            cases eAh
            replace hxAh_0 := (HB.out.cell (World.block_lt_of_cell? w _ hxAh_0)).trans hxAh_0
            replace hxAh_1 := (HB.out.cell (World.block_lt_of_cell? w _ hxAh_1)).trans hxAh_1
            replace pAh := eq_true pAh
            replace qAh := eq_true qAh
            go_wp2_with (first | ((with_reducible refine gate_callee (f := 53) rfl ?_); refine gL_ 86 Try.func53 #[.agg #[.int .i64 ((rd_T26 l1_5 x5_4).f0), .int .i64 ((rd_T26 l1_5 x5_4).f1)], .bool false] ?_; (with_reducible refine (plaitingref5_item.calls ((rd_T26 l1_5 x5_4).f0) ((rd_T26 l1_5 x5_4).f1) false true _ A54.out).mono ?_); rintro e w58 ⟨rfl, hb⟩; refine ⟨_, rfl, ?_⟩; replace BKAb := bb_ BKAb hb; replace BKAa := bb_ BKAa hb; replace HB := bs_ HB hb; (try clear hb); (try clear hb2); (try clear hk); (try clear hi)))
            go_roundg k4
            case measure => have := HJ2.out; have := HJ17.out; have := HJ31.out; have := HK4.out; omega
            case rel => exact ⟨(wrap64 (x5_4 + 1)), (by first | rfl | (simp; done) | (simp [*]; done)), H', ⟨by have := HJ2.out; have := HJ17.out; have := HJ31.out; have := HK4.out; omega⟩, ⟨pB_ BKAb.out⟩, ⟨pB_ BKAa.out⟩, ⟨pH_ HB.out⟩⟩
           replace c55 := Bool.eq_false_iff.mpr c55
           subst c55
           have H1 : (some 1) = some r := by rw [if_neg (show ¬ (false = true) by decide)] at H; exact H
           clear H
           have H := H1
           clear H1
           obtain rfl := Option.some.inj H
           have hnb59 := NBAa_Ab.out
           have hnc59 := NBAb_Aa.out
           obtain ⟨hcz60_0, hcz60_1, hcz60_2, hcz60_3, hcz60_4, hcz60_5⟩ := c6_ BKAa
           obtain ⟨hfz60_0, hfz60_1, hfz60_2, hfz60_3, hfz60_4, hfz60_5⟩ := f6_ BKAa
           have pAh : 0 ≤ (x5_4 : Int) := of_decide_eq_true (by first | (with_reducible assumption) | assumption)
           have qAh : x5_4 < (l1_5.length : Int) := of_decide_eq_true (by first | (with_reducible assumption) | assumption)
           obtain ⟨adAh, eAh, hxAh_0, hxAh_1⟩ := at_T26 HR1_5.out x5_4 pAh qAh
           cases eAh
           replace hxAh_0 := (HB.out.cell (World.block_lt_of_cell? w _ hxAh_0)).trans hxAh_0
           replace hxAh_1 := (HB.out.cell (World.block_lt_of_cell? w _ hxAh_1)).trans hxAh_1
           replace pAh := eq_true pAh
           replace qAh := eq_true qAh
           go_wp2_with (first | ((with_reducible refine gate_callee (f := 53) rfl ?_); refine gL_ 86 Try.func53 #[.agg #[.int .i64 ((rd_T26 l1_5 x5_4).f0), .int .i64 ((rd_T26 l1_5 x5_4).f1)], .bool false] ?_; (with_reducible refine (plaitingref5_item.calls ((rd_T26 l1_5 x5_4).f0) ((rd_T26 l1_5 x5_4).f1) false false _ A54.out).mono ?_); rintro e w61 ⟨rfl, hb⟩; refine ⟨_, rfl, ?_⟩; replace BKAb := bb_ BKAb hb; replace BKAa := bb_ BKAa hb; replace HB := bs_ HB hb; (try clear hb); (try clear hb2); (try clear hk); (try clear hi)))
           go_ret
           exact ⟨by first | rfl | (simp [errW_none, errW_some] <;> rfl) | (simp [*, errW_none, errW_some] <;> rfl), pH_ HB.out⟩
          rw [if_neg c52] at H
          have c52b0 : decide (x5_4 < (l1_5.length : Int)) = false := decide_eq_false c52
          clear c52
          obtain rfl := Option.some.inj H
          have hnb62 := NBAa_Ab.out
          have hnc62 := NBAb_Aa.out
          obtain ⟨hcz63_0, hcz63_1, hcz63_2, hcz63_3, hcz63_4, hcz63_5⟩ := c6_ BKAa
          obtain ⟨hfz63_0, hfz63_1, hfz63_2, hfz63_3, hfz63_4, hfz63_5⟩ := f6_ BKAa
          go_wp2
          go_ret
          exact ⟨by first | rfl | (simp [errW_none, errW_some] <;> rfl) | (simp [*, errW_none, errW_some] <;> rfl), pH_ HB.out⟩
       rw [if_neg c49] at H
       have c49b0 : ((l1_5.length : Int) == tAw) = false := beq_eq_false_iff_ne.mpr c49
       have c49b1 : ((l1_5.length : Int) != tAw) = true := bne_iff_ne.mpr c49
       obtain rfl := Option.some.inj H
       try go_wp2
       replace BKAb := Aside0.mk (blk_drew BKAb.out)
       replace BKAa := Aside0.mk (blk_drew BKAa.out)
       replace HB := Aside0.mk (below_drew1 HB.out)
       refine start_ (n := 10) (S := fun w' => w'.cell? ⟨gbAa, 0, none⟩ = some (.int .i64 a1_0) ∧ w'.cell? ⟨gbAa, 1, none⟩ = some (.int .i64 a1_1) ∧ w'.cell? ⟨gbAa, 2, none⟩ = some (.int .i64 a1_2) ∧ w'.cell? ⟨gbAa, 3, none⟩ = some (.int .i64 a1_3) ∧ w'.cell? ⟨gbAa, 4, none⟩ = some (.int .i64 a1_4) ∧ w'.cell? ⟨gbAa, 5, none⟩ = some (.slice A1_5 l1_5.length c1_5) ∧ w'.cell? ⟨gbAb, 0, none⟩ = some (.int .i64 a0_0) ∧ w'.cell? ⟨gbAb, 1, none⟩ = some (.int .i64 a0_1) ∧ w'.cell? ⟨gbAb, 2, none⟩ = some (.int .i64 a0_2) ∧ w'.cell? ⟨gbAb, 3, none⟩ = some (.int .i64 a0_3) ∧ w'.cell? ⟨gbAb, 4, none⟩ = some (.int .i64 a0_4) ∧ w'.cell? ⟨gbAb, 5, none⟩ = some (.slice A0_5 l0_5.length c0_5)) (ds := []) #[false, false, false, false, false, false, false, false, false, false] (by kernel_rfl) rfl rfl ⟨bc_ BKAa 0, bc_ BKAa 1, bc_ BKAa 2, bc_ BKAa 3, bc_ BKAa 4, bc_ BKAa 5, bc_ BKAb 0, bc_ BKAb 1, bc_ BKAb 2, bc_ BKAb 3, bc_ BKAb 4, bc_ BKAb 5⟩ (fun hHeld => ?_); refine with_tabW plaitingref5_Check.tab7 plaitingref5_Check.bits7 (fun HT_ HW_ => ?_)
       generalize wc.drew = w64 at BKAb BKAa HB hHeld ⊢
       refine pq_ 0 64 HT_ ?_
       refine pq_ 4 68 HT_ ?_
       refine pq_ 6 70 HT_ ?_
       refine tq_ 1 65 HT_ HW_ hHeld ?_
       refine pq_ 2 66 HT_ ?_
       refine tq_ 3 67 HT_ HW_ hHeld ?_
       refine tq_ 5 69 HT_ HW_ hHeld ?_
       refine tq_ 7 71 HT_ HW_ hHeld ?_
       refine oq_ 8 72 HT_ (fun K hK => ?_)
       refine gs_ Try.func54 #[.agg #[.int .i64 a0_0, .int .i64 a0_1, .int .i64 a0_2, .int .i64 a0_3, .int .i64 a0_4, .slice A0_5 l0_5.length c0_5], .int .i64 a1_0, .int .i64 a1_2] ?_
       with_reducible refine (plaitingref5_echoes.calls a0_0 a0_1 a0_2 a0_3 a0_4 _ _ l0_5 a1_0 a1_2 tAw _ ?side1 ?side2 A48.out).mono ?_
       (case side1 => exact cC_ (Kd.C_below HR0_5.out HB.out))
       (case side2 => exact HC0_5.out)
       rintro e w65 ⟨rfl, hb⟩
       refine ⟨_, rfl, ?_⟩
       replace BKAb := bb_ BKAb hb
       replace BKAa := bb_ BKAa hb
       replace HB := bs_ HB hb
       (try clear hb)
       (try clear hb2)
       (try clear hk)
       (try clear hi)
       refine hK.out _ _ ⟨bc_ BKAa 0, bc_ BKAa 1, bc_ BKAa 2, bc_ BKAa 3, bc_ BKAa 4, bc_ BKAa 5, bc_ BKAb 0, bc_ BKAb 1, bc_ BKAb 2, bc_ BKAb 3, bc_ BKAb 4, bc_ BKAb 5⟩ (fun hHeld => ?_)
       clear hK K
       refine nq_ 72 ?_
       refine pq_ 9 73 HT_ ?_
       refine done_ (done_of HT_.out (by kernel_rfl)) ?_
       try go_wp2
       go_ret
       exact ⟨by first | rfl | (simp [errW_none, errW_some] <;> rfl) | (simp [*, errW_none, errW_some] <;> rfl), pH_ HB.out⟩
def plaitingref5_Items.l0 : Nat → List (S26) → List (S26) → Int → Option (Bool)
 | 0, _, _, _ => none
 | k + 1, x0, x1, x5 => if x5 < (x0.length : Int) then (if 0 ≤ x5 then (if x5 < (x1.length : Int) then (if (!(((rd_T26 x0 x5).f0) == ((rd_T26 x1 x5).f0)) || (!(((rd_T26 x0 x5).f1) == ((rd_T26 x1 x5).f1)))) = true then (some false) else (plaitingref5_Items.l0 k x0 x1 (wrap64 (x5 + 1)))) else (none)) else (none)) else (some true)
def plaitingref5_Items.f (k : Nat) (l0 : List (S26)) (l1 : List (S26)) : Option (Bool) := if (l0.length : Int) = (l1.length : Int) then (plaitingref5_Items.l0 k l0 l1 0) else (some false)
set_option maxHeartbeats 8000000 in
set_option maxRecDepth 100000 in
theorem plaitingref5_Items.calls (k : Nat) (A0 : Option Addr) (c0 : Nat) (l0 : List (S26)) (A1 : Option Addr) (c1 : Nat) (l1 : List (S26)) (r : Bool) (w : World) (hr0 : Kd.C k26 w A0 l0.length l0) (hc0 : l0.length ≤ c0) (hr1 : Kd.C k26 w A1 l1.length l1) (hc1 : l1.length ≤ c1) (h : plaitingref5_Items.f k l0 l1 = some r) :
  Calls Try.prog 62 #[.slice A0 l0.length c0, .slice A1 l1.length c1] w fun e w' => e = .returned (.bool r) ∧ Drawn0 w w' := by
 have hu26 := Try.underlying26
 have HR0 := Aside0.mk hr0
 have HC0 := Aside0.mk hc0
 clear hr0 hc0
 have HR1 := Aside0.mk hr1
 have HC1 := Aside0.mk hc1
 clear hr1 hc1
 have H : (if (l0.length : Int) = (l1.length : Int) then (plaitingref5_Items.l0 k l0 l1 0) else (some false)) = some r := h
 clear h
 by_cases c3 : (l0.length : Int) = (l1.length : Int)
 ·
  rw [if_pos c3] at H
  have c3b0 : ((l0.length : Int) == (l1.length : Int)) = true := beq_iff_eq.mpr c3
  have c3b1 : ((l0.length : Int) != (l1.length : Int)) = false := bne_eq_false_iff_eq.mpr c3
  have c3b2 : (l0.length == l1.length) = true := by first | simpa using c3 | (simp at c3 ⊢; omega)
  clear c3
  have H' := Aside0.mk H
  clear H
  go_enter Try.func62, Try.ntmps62
  go_wp2
  repeat (go_quiet (fail); try go_wp2)
  go_loopg [5] k (fun kq v5 w' => ∃ (x5_1 : Int), v5 = .int .i64 x5_1 ∧ Aside0 (plaitingref5_Items.l0 kq l0 l1 x5_1 = some r) ∧ Aside0 (kq ≤ k) ∧ Drawn0 w w')
  case atStart => exact ⟨(0), (by first | rfl | (simp; done) | (simp [*]; done)), H', ⟨Nat.le_refl _⟩, by repeat (first | exact Drawn0.refl _ | apply Drawn0.step)⟩
  case round =>
   clear H'
   try clear c1
   try clear p2
   try clear c3
   try clear c3b0
   try clear c3b1
   try clear c3b2
   obtain ⟨x5_1, rfl, HA, HK1, ⟨m1, rfl⟩⟩ := hrel
   cases gk with
   | zero => exact absurd HA.out (by simp [plaitingref5_Items.l0])
   | succ k1 =>
    have H := HA.out
    clear HA
    simp only [plaitingref5_Items.l0] at H
    by_cases c4 : x5_1 < (l0.length : Int)
    ·
     rw [if_pos c4] at H
     have c4b0 : decide (x5_1 < (l0.length : Int)) = true := decide_eq_true c4
     clear c4
     by_cases c5 : 0 ≤ x5_1
     ·
      rw [if_pos c5] at H
      have c5b0 : decide (0 ≤ x5_1) = true := decide_eq_true c5
      clear c5
      by_cases c6 : x5_1 < (l1.length : Int)
      ·
       rw [if_pos c6] at H
       have c6b0 : decide (x5_1 < (l1.length : Int)) = true := decide_eq_true c6
       clear c6
       by_cases c7 : (!(((rd_T26 l0 x5_1).f0) == ((rd_T26 l1 x5_1).f0)) || (!(((rd_T26 l0 x5_1).f1) == ((rd_T26 l1 x5_1).f1)))) = true
       ·
        rw [if_pos c7] at H
        have c7b0 : (!(((rd_T26 l0 x5_1).f0) == ((rd_T26 l1 x5_1).f0)) || (!(((rd_T26 l0 x5_1).f1) == ((rd_T26 l1 x5_1).f1)))) = true := c7
        clear c7
        obtain rfl := Option.some.inj H
        have pAn : 0 ≤ (x5_1 : Int) := of_decide_eq_true (by first | (with_reducible assumption) | assumption)
        have qAn : x5_1 < (l0.length : Int) := of_decide_eq_true (by first | (with_reducible assumption) | assumption)
        obtain ⟨adAn, eAn, hxAn_0, hxAn_1⟩ := at_T26 HR0.out x5_1 pAn qAn
        cases eAn
        replace pAn := eq_true pAn
        replace qAn := eq_true qAn
        have pAp : 0 ≤ (x5_1 : Int) := of_decide_eq_true (by first | (with_reducible assumption) | assumption)
        have qAp : x5_1 < (l1.length : Int) := of_decide_eq_true (by first | (with_reducible assumption) | assumption)
        obtain ⟨adAp, eAp, hxAp_0, hxAp_1⟩ := at_T26 HR1.out x5_1 pAp qAp
        cases eAp
        replace pAp := eq_true pAp
        replace qAp := eq_true qAp
        go_wp2
        repeat (go_quiet (fail); try go_wp2)
        go_ret
        exact ⟨by first | rfl | (simp; done) | (simp [*]; done), by repeat (first | exact Drawn0.refl _ | apply Drawn0.step)⟩
       ·
        rw [if_neg c7] at H
        have c7b0 : (!(((rd_T26 l0 x5_1).f0) == ((rd_T26 l1 x5_1).f0)) || (!(((rd_T26 l0 x5_1).f1) == ((rd_T26 l1 x5_1).f1)))) = false := by simpa using c7
        clear c7
        have H' := Aside0.mk H
        clear H
        have pAn : 0 ≤ (x5_1 : Int) := of_decide_eq_true (by first | (with_reducible assumption) | assumption)
        have qAn : x5_1 < (l0.length : Int) := of_decide_eq_true (by first | (with_reducible assumption) | assumption)
        obtain ⟨adAn, eAn, hxAn_0, hxAn_1⟩ := at_T26 HR0.out x5_1 pAn qAn
        cases eAn
        replace pAn := eq_true pAn
        replace qAn := eq_true qAn
        have pAp : 0 ≤ (x5_1 : Int) := of_decide_eq_true (by first | (with_reducible assumption) | assumption)
        have qAp : x5_1 < (l1.length : Int) := of_decide_eq_true (by first | (with_reducible assumption) | assumption)
        obtain ⟨adAp, eAp, hxAp_0, hxAp_1⟩ := at_T26 HR1.out x5_1 pAp qAp
        cases eAp
        replace pAp := eq_true pAp
        replace qAp := eq_true qAp
        go_wp2
        repeat (go_quiet (fail); try go_wp2)
        go_roundg k1
        case measure => have := HK1.out; omega
        case rel => exact ⟨(wrap64 (x5_1 + 1)), (by first | rfl | (simp; done) | (simp [*]; done)), H', ⟨by have := HK1.out; omega⟩, by repeat (first | exact Drawn0.refl _ | apply Drawn0.step)⟩
      ·
       rw [if_neg c6] at H
       exact absurd H (by simp)
     ·
      rw [if_neg c5] at H
      exact absurd H (by simp)
    ·
     rw [if_neg c4] at H
     have c4b0 : decide (x5_1 < (l0.length : Int)) = false := decide_eq_false c4
     clear c4
     obtain rfl := Option.some.inj H
     go_wp2
     repeat (go_quiet (fail); try go_wp2)
     go_ret
     exact ⟨by first | rfl | (simp; done) | (simp [*]; done), by repeat (first | exact Drawn0.refl _ | apply Drawn0.step)⟩
 ·
  rw [if_neg c3] at H
  have c3b0 : ((l0.length : Int) == (l1.length : Int)) = false := beq_eq_false_iff_ne.mpr c3
  have c3b1 : ((l0.length : Int) != (l1.length : Int)) = true := bne_iff_ne.mpr c3
  have c3b2 : (l0.length == l1.length) = false := by first | simpa using c3 | (simp at c3 ⊢; omega)
  obtain rfl := Option.some.inj H
  go_enter Try.func62, Try.ntmps62
  go_wp2
  repeat (go_quiet (fail); try go_wp2)
  go_ret
  exact ⟨by first | rfl | (simp; done) | (simp [*]; done), by repeat (first | exact Drawn0.refl _ | apply Drawn0.step)⟩
def plaitingref5_Same.f (k : Nat) (a0_0 : Int) (a0_1 : Int) (a0_2 : Int) (a0_3 : Int) (a0_4 : Int) (l0_5 : List (S26)) (a1_0 : Int) (a1_1 : Int) (a1_2 : Int) (a1_3 : Int) (a1_4 : Int) (l1_5 : List (S26)) : Option (Bool) := if a0_0 = a1_0 then (if a0_1 = a1_1 then (if a0_2 = a1_2 then (if (!(a0_3 == a1_3) || (!(a0_4 == a1_4))) = true then (some false) else ((plaitingref5_Items.f k l0_5 l1_5).bind fun tBe => (some tBe))) else (some false)) else (some false)) else (some false)
set_option maxHeartbeats 8000000 in
set_option maxRecDepth 100000 in
theorem plaitingref5_Same.calls (k : Nat) (a0_0 : Int) (a0_1 : Int) (a0_2 : Int) (a0_3 : Int) (a0_4 : Int) (A0_5 : Option Addr) (c0_5 : Nat) (l0_5 : List (S26)) (a1_0 : Int) (a1_1 : Int) (a1_2 : Int) (a1_3 : Int) (a1_4 : Int) (A1_5 : Option Addr) (c1_5 : Nat) (l1_5 : List (S26)) (r : Bool) (w : World) (hr0_5 : Kd.C k26 w A0_5 l0_5.length l0_5) (hc0_5 : l0_5.length ≤ c0_5) (hr1_5 : Kd.C k26 w A1_5 l1_5.length l1_5) (hc1_5 : l1_5.length ≤ c1_5) (h : plaitingref5_Same.f k a0_0 a0_1 a0_2 a0_3 a0_4 l0_5 a1_0 a1_1 a1_2 a1_3 a1_4 l1_5 = some r) :
  Calls Try.prog 30 #[.agg #[.int .i64 a0_0, .int .i64 a0_1, .int .i64 a0_2, .int .i64 a0_3, .int .i64 a0_4, .slice A0_5 l0_5.length c0_5], .agg #[.int .i64 a1_0, .int .i64 a1_1, .int .i64 a1_2, .int .i64 a1_3, .int .i64 a1_4, .slice A1_5 l1_5.length c1_5]] w fun e w' => e = .returned (.bool r) ∧ Below w.heap.size w w' := by
 have hu29 := Try.underlying29
 have hu26 := Try.underlying26
 have HR0_5 := Aside0.mk hr0_5
 have HC0_5 := Aside0.mk hc0_5
 clear hr0_5 hc0_5
 have HR1_5 := Aside0.mk hr1_5
 have HC1_5 := Aside0.mk hc1_5
 clear hr1_5 hc1_5
 have HB := Aside0.mk (Below.refl w.heap.size w)
 have H : (if a0_0 = a1_0 then (if a0_1 = a1_1 then (if a0_2 = a1_2 then (if (!(a0_3 == a1_3) || (!(a0_4 == a1_4))) = true then (some false) else ((plaitingref5_Items.f k l0_5 l1_5).bind fun tBe => (some tBe))) else (some false)) else (some false)) else (some false)) = some r := h
 clear h
 by_cases c3 : a0_0 = a1_0
 ·
  rw [if_pos c3] at H
  have c3b0 : (a0_0 == a1_0) = true := beq_iff_eq.mpr c3
  have c3b1 : (a0_0 != a1_0) = false := bne_eq_false_iff_eq.mpr c3
  clear c3
  by_cases c4 : a0_1 = a1_1
  ·
   rw [if_pos c4] at H
   have c4b0 : (a0_1 == a1_1) = true := beq_iff_eq.mpr c4
   have c4b1 : (a0_1 != a1_1) = false := bne_eq_false_iff_eq.mpr c4
   clear c4
   by_cases c5 : a0_2 = a1_2
   ·
    rw [if_pos c5] at H
    have c5b0 : (a0_2 == a1_2) = true := beq_iff_eq.mpr c5
    have c5b1 : (a0_2 != a1_2) = false := bne_eq_false_iff_eq.mpr c5
    clear c5
    by_cases c6 : (!(a0_3 == a1_3) || (!(a0_4 == a1_4))) = true
    ·
     rw [if_pos c6] at H
     have c6b0 : (!(a0_3 == a1_3) || (!(a0_4 == a1_4))) = true := c6
     clear c6
     obtain rfl := Option.some.inj H
     go_enter Try.func30, Try.ntmps30
     go_wp2_with (first | ((with_reducible refine gate_dst (N := 2) rfl ?_); refine be_ 2 #[.int .i64 a0_0, .int .i64 a0_1, .int .i64 a0_2, .int .i64 a0_3, .int .i64 a0_4, .slice A0_5 l0_5.length c0_5] 29 ?_; intro gbAc hg w7 hbox hb; have n0_ := bs_ HB hb; have n1_ := Aside0.mk (hbox); have n2_ := Aside0.mk ((by rw [hg]; exact (below_size (pH_ HB.out)) : w.heap.size ≤ gbAc)); have n3_ := Aside0.mk ((by rw [hg]; exact (below_size (pH_ HB.out)) : w.heap.size ≤ gbAc)); clear HB; have HB := n0_; have BKAc := n1_; have GWAc := n2_; have GEAc := n3_; clear n0_ n1_ n2_ n3_; clear hb hbox hg) | ((with_reducible refine gate_dst (N := 3) rfl ?_); refine be_ 3 #[.int .i64 a1_0, .int .i64 a1_1, .int .i64 a1_2, .int .i64 a1_3, .int .i64 a1_4, .slice A1_5 l1_5.length c1_5] 29 ?_; intro gbAf hg w8 hbox hb; have n0_ := Aside0.mk (blk_below (g := gbAc) (o := .cells #[.int .i64 a0_0, .int .i64 a0_1, .int .i64 a0_2, .int .i64 a0_3, .int .i64 a0_4, .slice A0_5 l0_5.length c0_5] 29 (0, 0)) (pB_ BKAc.out) hb); have n1_ := bs_ HB hb; have n2_ := Aside0.mk (hbox); have n3_ := Aside0.mk ((by rw [hg]; exact (below_size (pH_ HB.out)) : w.heap.size ≤ gbAf)); have n4_ := Aside0.mk ((by rw [hg]; exact (below_size (pH_ HB.out)) : w.heap.size ≤ gbAf)); have n5_ := Aside0.mk ((by rw [hg]; exact Nat.ne_of_lt (blk_lt (g := gbAc) (o := .cells #[.int .i64 a0_0, .int .i64 a0_1, .int .i64 a0_2, .int .i64 a0_3, .int .i64 a0_4, .slice A0_5 l0_5.length c0_5] 29 (0, 0)) (pB_ BKAc.out)) : gbAc ≠ gbAf)); have n6_ := Aside0.mk ((by rw [hg]; exact Nat.ne_of_gt (blk_lt (g := gbAc) (o := .cells #[.int .i64 a0_0, .int .i64 a0_1, .int .i64 a0_2, .int .i64 a0_3, .int .i64 a0_4, .slice A0_5 l0_5.length c0_5] 29 (0, 0)) (pB_ BKAc.out)) : gbAf ≠ gbAc)); clear BKAc; clear HB; have BKAc := n0_; have HB := n1_; have BKAf := n2_; have GWAf := n3_; have GEAf := n4_; have NBAc_Af := n5_; have NBAf_Ac := n6_; clear n0_ n1_ n2_ n3_ n4_ n5_ n6_; clear hb hbox hg; have hnb9 := NBAc_Af.out; have hnc9 := NBAf_Ac.out; obtain ⟨hcz10_0, hcz10_1, hcz10_2, hcz10_3, hcz10_4, hcz10_5⟩ := c6_ BKAc; obtain ⟨hfz10_0, hfz10_1, hfz10_2, hfz10_3, hfz10_4, hfz10_5⟩ := f6_ BKAc; obtain ⟨hcz11_0, hcz11_1, hcz11_2, hcz11_3, hcz11_4, hcz11_5⟩ := c6_ BKAf; obtain ⟨hfz11_0, hfz11_1, hfz11_2, hfz11_3, hfz11_4, hfz11_5⟩ := f6_ BKAf))
     go_ret
     exact ⟨by first | rfl | (simp [errW_none, errW_some] <;> rfl) | (simp [*, errW_none, errW_some] <;> rfl), pH_ HB.out⟩
    ·
     rw [if_neg c6] at H
     have c6b0 : (!(a0_3 == a1_3) || (!(a0_4 == a1_4))) = false := by simpa using c6
     clear c6
     replace H := Option.bind_eq_some_iff.mp H
     obtain ⟨tBe, A120, H⟩ := H
     try dsimp only at H
     have A12 := Aside0.mk A120
     clear A120
     obtain rfl := Option.some.inj H
     go_enter Try.func30, Try.ntmps30
     go_wp2_with (first | ((with_reducible refine gate_dst (N := 2) rfl ?_); refine be_ 2 #[.int .i64 a0_0, .int .i64 a0_1, .int .i64 a0_2, .int .i64 a0_3, .int .i64 a0_4, .slice A0_5 l0_5.length c0_5] 29 ?_; intro gbAc hg w13 hbox hb; have n0_ := bs_ HB hb; have n1_ := Aside0.mk (hbox); have n2_ := Aside0.mk ((by rw [hg]; exact (below_size (pH_ HB.out)) : w.heap.size ≤ gbAc)); have n3_ := Aside0.mk ((by rw [hg]; exact (below_size (pH_ HB.out)) : w.heap.size ≤ gbAc)); clear HB; have HB := n0_; have BKAc := n1_; have GWAc := n2_; have GEAc := n3_; clear n0_ n1_ n2_ n3_; clear hb hbox hg) | ((with_reducible refine gate_dst (N := 3) rfl ?_); refine be_ 3 #[.int .i64 a1_0, .int .i64 a1_1, .int .i64 a1_2, .int .i64 a1_3, .int .i64 a1_4, .slice A1_5 l1_5.length c1_5] 29 ?_; intro gbAf hg w14 hbox hb; have n0_ := Aside0.mk (blk_below (g := gbAc) (o := .cells #[.int .i64 a0_0, .int .i64 a0_1, .int .i64 a0_2, .int .i64 a0_3, .int .i64 a0_4, .slice A0_5 l0_5.length c0_5] 29 (0, 0)) (pB_ BKAc.out) hb); have n1_ := bs_ HB hb; have n2_ := Aside0.mk (hbox); have n3_ := Aside0.mk ((by rw [hg]; exact (below_size (pH_ HB.out)) : w.heap.size ≤ gbAf)); have n4_ := Aside0.mk ((by rw [hg]; exact (below_size (pH_ HB.out)) : w.heap.size ≤ gbAf)); have n5_ := Aside0.mk ((by rw [hg]; exact Nat.ne_of_lt (blk_lt (g := gbAc) (o := .cells #[.int .i64 a0_0, .int .i64 a0_1, .int .i64 a0_2, .int .i64 a0_3, .int .i64 a0_4, .slice A0_5 l0_5.length c0_5] 29 (0, 0)) (pB_ BKAc.out)) : gbAc ≠ gbAf)); have n6_ := Aside0.mk ((by rw [hg]; exact Nat.ne_of_gt (blk_lt (g := gbAc) (o := .cells #[.int .i64 a0_0, .int .i64 a0_1, .int .i64 a0_2, .int .i64 a0_3, .int .i64 a0_4, .slice A0_5 l0_5.length c0_5] 29 (0, 0)) (pB_ BKAc.out)) : gbAf ≠ gbAc)); clear BKAc; clear HB; have BKAc := n0_; have HB := n1_; have BKAf := n2_; have GWAf := n3_; have GEAf := n4_; have NBAc_Af := n5_; have NBAf_Ac := n6_; clear n0_ n1_ n2_ n3_ n4_ n5_ n6_; clear hb hbox hg; have hnb15 := NBAc_Af.out; have hnc15 := NBAf_Ac.out; obtain ⟨hcz16_0, hcz16_1, hcz16_2, hcz16_3, hcz16_4, hcz16_5⟩ := c6_ BKAc; obtain ⟨hfz16_0, hfz16_1, hfz16_2, hfz16_3, hfz16_4, hfz16_5⟩ := f6_ BKAc; obtain ⟨hcz17_0, hcz17_1, hcz17_2, hcz17_3, hcz17_4, hcz17_5⟩ := c6_ BKAf; obtain ⟨hfz17_0, hfz17_1, hfz17_2, hfz17_3, hfz17_4, hfz17_5⟩ := f6_ BKAf) | ((with_reducible refine gate_callee (f := 62) rfl ?_); refine gL_ 35 Try.func62 #[.slice A0_5 l0_5.length c0_5, .slice A1_5 l1_5.length c1_5] ?_; (with_reducible refine (plaitingref5_Items.calls k _ _ l0_5 _ _ l1_5 tBe _ ?side1 ?side2 ?side3 ?side4 A12.out).mono ?_); (case side1 => exact cC_ (Kd.C_below HR0_5.out HB.out)); (case side2 => exact HC0_5.out); (case side3 => exact cC_ (Kd.C_below HR1_5.out HB.out)); (case side4 => exact HC1_5.out); rintro e w' ⟨rfl, ⟨nd, rfl⟩⟩; refine ⟨_, rfl, ?_⟩))
     go_ret
     exact ⟨by first | rfl | (simp [errW_none, errW_some] <;> rfl) | (simp [*, errW_none, errW_some] <;> rfl), pH_ HB.out⟩
   ·
    rw [if_neg c5] at H
    have c5b0 : (a0_2 == a1_2) = false := beq_eq_false_iff_ne.mpr c5
    have c5b1 : (a0_2 != a1_2) = true := bne_iff_ne.mpr c5
    obtain rfl := Option.some.inj H
    go_enter Try.func30, Try.ntmps30
    go_wp2_with (first | ((with_reducible refine gate_dst (N := 2) rfl ?_); refine be_ 2 #[.int .i64 a0_0, .int .i64 a0_1, .int .i64 a0_2, .int .i64 a0_3, .int .i64 a0_4, .slice A0_5 l0_5.length c0_5] 29 ?_; intro gbAc hg w18 hbox hb; have n0_ := bs_ HB hb; have n1_ := Aside0.mk (hbox); have n2_ := Aside0.mk ((by rw [hg]; exact (below_size (pH_ HB.out)) : w.heap.size ≤ gbAc)); have n3_ := Aside0.mk ((by rw [hg]; exact (below_size (pH_ HB.out)) : w.heap.size ≤ gbAc)); clear HB; have HB := n0_; have BKAc := n1_; have GWAc := n2_; have GEAc := n3_; clear n0_ n1_ n2_ n3_; clear hb hbox hg) | ((with_reducible refine gate_dst (N := 3) rfl ?_); refine be_ 3 #[.int .i64 a1_0, .int .i64 a1_1, .int .i64 a1_2, .int .i64 a1_3, .int .i64 a1_4, .slice A1_5 l1_5.length c1_5] 29 ?_; intro gbAf hg w19 hbox hb; have n0_ := Aside0.mk (blk_below (g := gbAc) (o := .cells #[.int .i64 a0_0, .int .i64 a0_1, .int .i64 a0_2, .int .i64 a0_3, .int .i64 a0_4, .slice A0_5 l0_5.length c0_5] 29 (0, 0)) (pB_ BKAc.out) hb); have n1_ := bs_ HB hb; have n2_ := Aside0.mk (hbox); have n3_ := Aside0.mk ((by rw [hg]; exact (below_size (pH_ HB.out)) : w.heap.size ≤ gbAf)); have n4_ := Aside0.mk ((by rw [hg]; exact (below_size (pH_ HB.out)) : w.heap.size ≤ gbAf)); have n5_ := Aside0.mk ((by rw [hg]; exact Nat.ne_of_lt (blk_lt (g := gbAc) (o := .cells #[.int .i64 a0_0, .int .i64 a0_1, .int .i64 a0_2, .int .i64 a0_3, .int .i64 a0_4, .slice A0_5 l0_5.length c0_5] 29 (0, 0)) (pB_ BKAc.out)) : gbAc ≠ gbAf)); have n6_ := Aside0.mk ((by rw [hg]; exact Nat.ne_of_gt (blk_lt (g := gbAc) (o := .cells #[.int .i64 a0_0, .int .i64 a0_1, .int .i64 a0_2, .int .i64 a0_3, .int .i64 a0_4, .slice A0_5 l0_5.length c0_5] 29 (0, 0)) (pB_ BKAc.out)) : gbAf ≠ gbAc)); clear BKAc; clear HB; have BKAc := n0_; have HB := n1_; have BKAf := n2_; have GWAf := n3_; have GEAf := n4_; have NBAc_Af := n5_; have NBAf_Ac := n6_; clear n0_ n1_ n2_ n3_ n4_ n5_ n6_; clear hb hbox hg; have hnb20 := NBAc_Af.out; have hnc20 := NBAf_Ac.out; obtain ⟨hcz21_0, hcz21_1, hcz21_2, hcz21_3, hcz21_4, hcz21_5⟩ := c6_ BKAc; obtain ⟨hfz21_0, hfz21_1, hfz21_2, hfz21_3, hfz21_4, hfz21_5⟩ := f6_ BKAc; obtain ⟨hcz22_0, hcz22_1, hcz22_2, hcz22_3, hcz22_4, hcz22_5⟩ := c6_ BKAf; obtain ⟨hfz22_0, hfz22_1, hfz22_2, hfz22_3, hfz22_4, hfz22_5⟩ := f6_ BKAf))
    go_ret
    exact ⟨by first | rfl | (simp [errW_none, errW_some] <;> rfl) | (simp [*, errW_none, errW_some] <;> rfl), pH_ HB.out⟩
  ·
   rw [if_neg c4] at H
   have c4b0 : (a0_1 == a1_1) = false := beq_eq_false_iff_ne.mpr c4
   have c4b1 : (a0_1 != a1_1) = true := bne_iff_ne.mpr c4
   obtain rfl := Option.some.inj H
   go_enter Try.func30, Try.ntmps30
   go_wp2_with (first | ((with_reducible refine gate_dst (N := 2) rfl ?_); refine be_ 2 #[.int .i64 a0_0, .int .i64 a0_1, .int .i64 a0_2, .int .i64 a0_3, .int .i64 a0_4, .slice A0_5 l0_5.length c0_5] 29 ?_; intro gbAc hg w23 hbox hb; have n0_ := bs_ HB hb; have n1_ := Aside0.mk (hbox); have n2_ := Aside0.mk ((by rw [hg]; exact (below_size (pH_ HB.out)) : w.heap.size ≤ gbAc)); have n3_ := Aside0.mk ((by rw [hg]; exact (below_size (pH_ HB.out)) : w.heap.size ≤ gbAc)); clear HB; have HB := n0_; have BKAc := n1_; have GWAc := n2_; have GEAc := n3_; clear n0_ n1_ n2_ n3_; clear hb hbox hg) | ((with_reducible refine gate_dst (N := 3) rfl ?_); refine be_ 3 #[.int .i64 a1_0, .int .i64 a1_1, .int .i64 a1_2, .int .i64 a1_3, .int .i64 a1_4, .slice A1_5 l1_5.length c1_5] 29 ?_; intro gbAf hg w24 hbox hb; have n0_ := Aside0.mk (blk_below (g := gbAc) (o := .cells #[.int .i64 a0_0, .int .i64 a0_1, .int .i64 a0_2, .int .i64 a0_3, .int .i64 a0_4, .slice A0_5 l0_5.length c0_5] 29 (0, 0)) (pB_ BKAc.out) hb); have n1_ := bs_ HB hb; have n2_ := Aside0.mk (hbox); have n3_ := Aside0.mk ((by rw [hg]; exact (below_size (pH_ HB.out)) : w.heap.size ≤ gbAf)); have n4_ := Aside0.mk ((by rw [hg]; exact (below_size (pH_ HB.out)) : w.heap.size ≤ gbAf)); have n5_ := Aside0.mk ((by rw [hg]; exact Nat.ne_of_lt (blk_lt (g := gbAc) (o := .cells #[.int .i64 a0_0, .int .i64 a0_1, .int .i64 a0_2, .int .i64 a0_3, .int .i64 a0_4, .slice A0_5 l0_5.length c0_5] 29 (0, 0)) (pB_ BKAc.out)) : gbAc ≠ gbAf)); have n6_ := Aside0.mk ((by rw [hg]; exact Nat.ne_of_gt (blk_lt (g := gbAc) (o := .cells #[.int .i64 a0_0, .int .i64 a0_1, .int .i64 a0_2, .int .i64 a0_3, .int .i64 a0_4, .slice A0_5 l0_5.length c0_5] 29 (0, 0)) (pB_ BKAc.out)) : gbAf ≠ gbAc)); clear BKAc; clear HB; have BKAc := n0_; have HB := n1_; have BKAf := n2_; have GWAf := n3_; have GEAf := n4_; have NBAc_Af := n5_; have NBAf_Ac := n6_; clear n0_ n1_ n2_ n3_ n4_ n5_ n6_; clear hb hbox hg; have hnb25 := NBAc_Af.out; have hnc25 := NBAf_Ac.out; obtain ⟨hcz26_0, hcz26_1, hcz26_2, hcz26_3, hcz26_4, hcz26_5⟩ := c6_ BKAc; obtain ⟨hfz26_0, hfz26_1, hfz26_2, hfz26_3, hfz26_4, hfz26_5⟩ := f6_ BKAc; obtain ⟨hcz27_0, hcz27_1, hcz27_2, hcz27_3, hcz27_4, hcz27_5⟩ := c6_ BKAf; obtain ⟨hfz27_0, hfz27_1, hfz27_2, hfz27_3, hfz27_4, hfz27_5⟩ := f6_ BKAf))
   go_ret
   exact ⟨by first | rfl | (simp [errW_none, errW_some] <;> rfl) | (simp [*, errW_none, errW_some] <;> rfl), pH_ HB.out⟩
 ·
  rw [if_neg c3] at H
  have c3b0 : (a0_0 == a1_0) = false := beq_eq_false_iff_ne.mpr c3
  have c3b1 : (a0_0 != a1_0) = true := bne_iff_ne.mpr c3
  obtain rfl := Option.some.inj H
  go_enter Try.func30, Try.ntmps30
  go_wp2_with (first | ((with_reducible refine gate_dst (N := 2) rfl ?_); refine be_ 2 #[.int .i64 a0_0, .int .i64 a0_1, .int .i64 a0_2, .int .i64 a0_3, .int .i64 a0_4, .slice A0_5 l0_5.length c0_5] 29 ?_; intro gbAc hg w28 hbox hb; have n0_ := bs_ HB hb; have n1_ := Aside0.mk (hbox); have n2_ := Aside0.mk ((by rw [hg]; exact (below_size (pH_ HB.out)) : w.heap.size ≤ gbAc)); have n3_ := Aside0.mk ((by rw [hg]; exact (below_size (pH_ HB.out)) : w.heap.size ≤ gbAc)); clear HB; have HB := n0_; have BKAc := n1_; have GWAc := n2_; have GEAc := n3_; clear n0_ n1_ n2_ n3_; clear hb hbox hg) | ((with_reducible refine gate_dst (N := 3) rfl ?_); refine be_ 3 #[.int .i64 a1_0, .int .i64 a1_1, .int .i64 a1_2, .int .i64 a1_3, .int .i64 a1_4, .slice A1_5 l1_5.length c1_5] 29 ?_; intro gbAf hg w29 hbox hb; have n0_ := Aside0.mk (blk_below (g := gbAc) (o := .cells #[.int .i64 a0_0, .int .i64 a0_1, .int .i64 a0_2, .int .i64 a0_3, .int .i64 a0_4, .slice A0_5 l0_5.length c0_5] 29 (0, 0)) (pB_ BKAc.out) hb); have n1_ := bs_ HB hb; have n2_ := Aside0.mk (hbox); have n3_ := Aside0.mk ((by rw [hg]; exact (below_size (pH_ HB.out)) : w.heap.size ≤ gbAf)); have n4_ := Aside0.mk ((by rw [hg]; exact (below_size (pH_ HB.out)) : w.heap.size ≤ gbAf)); have n5_ := Aside0.mk ((by rw [hg]; exact Nat.ne_of_lt (blk_lt (g := gbAc) (o := .cells #[.int .i64 a0_0, .int .i64 a0_1, .int .i64 a0_2, .int .i64 a0_3, .int .i64 a0_4, .slice A0_5 l0_5.length c0_5] 29 (0, 0)) (pB_ BKAc.out)) : gbAc ≠ gbAf)); have n6_ := Aside0.mk ((by rw [hg]; exact Nat.ne_of_gt (blk_lt (g := gbAc) (o := .cells #[.int .i64 a0_0, .int .i64 a0_1, .int .i64 a0_2, .int .i64 a0_3, .int .i64 a0_4, .slice A0_5 l0_5.length c0_5] 29 (0, 0)) (pB_ BKAc.out)) : gbAf ≠ gbAc)); clear BKAc; clear HB; have BKAc := n0_; have HB := n1_; have BKAf := n2_; have GWAf := n3_; have GEAf := n4_; have NBAc_Af := n5_; have NBAf_Ac := n6_; clear n0_ n1_ n2_ n3_ n4_ n5_ n6_; clear hb hbox hg; have hnb30 := NBAc_Af.out; have hnc30 := NBAf_Ac.out; obtain ⟨hcz31_0, hcz31_1, hcz31_2, hcz31_3, hcz31_4, hcz31_5⟩ := c6_ BKAc; obtain ⟨hfz31_0, hfz31_1, hfz31_2, hfz31_3, hfz31_4, hfz31_5⟩ := f6_ BKAc; obtain ⟨hcz32_0, hcz32_1, hcz32_2, hcz32_3, hcz32_4, hcz32_5⟩ := c6_ BKAf; obtain ⟨hfz32_0, hfz32_1, hfz32_2, hfz32_3, hfz32_4, hfz32_5⟩ := f6_ BKAf))
  go_ret
  exact ⟨by first | rfl | (simp [errW_none, errW_some] <;> rfl) | (simp [*, errW_none, errW_some] <;> rfl), pH_ HB.out⟩
def plaitingref5_bits.f (k : Nat) (a0_0 : Int) (a0_1 : Int) : Option (ByteArray) := (plaitingref1_Bits.f k a0_0 2).bind fun tAu => ((plaitingref1_Bits.f k a0_1 8).bind fun tAv => (if tAu.size + tAv.size ≤ 9223372036854775807 then (some (tAu ++ tAv)) else (none)))
set_option maxHeartbeats 8000000 in
set_option maxRecDepth 100000 in
theorem plaitingref5_bits.calls (k : Nat) (a0_0 : Int) (a0_1 : Int) (r : ByteArray) (w : World) (h : plaitingref5_bits.f k a0_0 a0_1 = some r) :
  Calls Try.prog 63 #[.agg #[.int .i64 a0_0, .int .i64 a0_1]] w fun e w' => e = .returned (.string r) ∧ Below w.heap.size w w' := by
 have hu26 := Try.underlying26
 have HB := Aside0.mk (Below.refl w.heap.size w)
 have H : ((plaitingref1_Bits.f k a0_0 2).bind fun tAu => ((plaitingref1_Bits.f k a0_1 8).bind fun tAv => (if tAu.size + tAv.size ≤ 9223372036854775807 then (some (tAu ++ tAv)) else (none)))) = some r := h
 clear h
 replace H := Option.bind_eq_some_iff.mp H
 obtain ⟨tAu, A20, H⟩ := H
 try dsimp only at H
 have A2 := Aside0.mk A20
 clear A20
 replace H := Option.bind_eq_some_iff.mp H
 obtain ⟨tAv, A30, H⟩ := H
 try dsimp only at H
 have A3 := Aside0.mk A30
 clear A30
 by_cases c4 : tAu.size + tAv.size ≤ 9223372036854775807
 ·
  rw [if_pos c4] at H
  have c4b0 := eq_true c4
  have c4b1 : decide (tAu.size + tAv.size ≤ 9223372036854775807) = true := decide_eq_true c4
  try have c4b2 : (9223372036854775807 < tAu.size + tAv.size) = False := eq_false (Nat.not_lt.2 c4)
  obtain rfl := Option.some.inj H
  go_enter Try.func63, Try.ntmps63
  go_wp2_with (first | ((with_reducible refine gate_dst (N := 1) rfl ?_); refine be_ 1 #[.int .i64 a0_0, .int .i64 a0_1] 26 ?_; intro gbAk hg w5 hbox hb; have n0_ := bs_ HB hb; have n1_ := Aside0.mk (hbox); have n2_ := Aside0.mk ((by rw [hg]; exact (below_size (pH_ HB.out)) : w.heap.size ≤ gbAk)); have n3_ := Aside0.mk ((by rw [hg]; exact (below_size (pH_ HB.out)) : w.heap.size ≤ gbAk)); clear HB; have HB := n0_; have BKAk := n1_; have GWAk := n2_; have GEAk := n3_; clear n0_ n1_ n2_ n3_; clear hb hbox hg; have hcz6_0 : w5.cell? ⟨gbAk, 0, none⟩ = some (.int .i64 a0_0) := bc_ BKAk 0; have hcz6_1 : w5.cell? ⟨gbAk, 1, none⟩ = some (.int .i64 a0_1) := bc_ BKAk 1; have hfz6_0 := blk_frozen BKAk.out 0; have hfz6_1 := blk_frozen BKAk.out 1) | (go_at_call 28; (with_reducible refine (plaitingref1_Bits.calls k a0_0 2 tAu _ A2.out).mono ?_); rintro e w' ⟨rfl, ⟨nd, rfl⟩⟩; (try first | exact ⟨rfl, _, World.drewN_drewN _ _ _⟩ | exact ⟨rfl, _, Eq.trans (World.drewN_drewN _ _ _) (congrArg (World.drewN _) (Nat.add_assoc _ _ _))⟩)) | (go_at_call 28; (with_reducible refine (plaitingref1_Bits.calls k a0_1 8 tAv _ A3.out).mono ?_); rintro e w' ⟨rfl, ⟨nd, rfl⟩⟩; (try first | exact ⟨rfl, _, World.drewN_drewN _ _ _⟩ | exact ⟨rfl, _, Eq.trans (World.drewN_drewN _ _ _) (congrArg (World.drewN _) (Nat.add_assoc _ _ _))⟩)))
  repeat (go_quiet (first | ((with_reducible refine gate_dst (N := 1) rfl ?_); refine be_ 1 #[.int .i64 a0_0, .int .i64 a0_1] 26 ?_; intro gbAk hg w5 hbox hb; have n0_ := bs_ HB hb; have n1_ := Aside0.mk (hbox); have n2_ := Aside0.mk ((by rw [hg]; exact (below_size (pH_ HB.out)) : w.heap.size ≤ gbAk)); have n3_ := Aside0.mk ((by rw [hg]; exact (below_size (pH_ HB.out)) : w.heap.size ≤ gbAk)); clear HB; have HB := n0_; have BKAk := n1_; have GWAk := n2_; have GEAk := n3_; clear n0_ n1_ n2_ n3_; clear hb hbox hg; have hcz6_0 : w5.cell? ⟨gbAk, 0, none⟩ = some (.int .i64 a0_0) := bc_ BKAk 0; have hcz6_1 : w5.cell? ⟨gbAk, 1, none⟩ = some (.int .i64 a0_1) := bc_ BKAk 1; have hfz6_0 := blk_frozen BKAk.out 0; have hfz6_1 := blk_frozen BKAk.out 1) | (go_at_call 28; (with_reducible refine (plaitingref1_Bits.calls k a0_0 2 tAu _ A2.out).mono ?_); rintro e w' ⟨rfl, ⟨nd, rfl⟩⟩; (try first | exact ⟨rfl, _, World.drewN_drewN _ _ _⟩ | exact ⟨rfl, _, Eq.trans (World.drewN_drewN _ _ _) (congrArg (World.drewN _) (Nat.add_assoc _ _ _))⟩)) | (go_at_call 28; (with_reducible refine (plaitingref1_Bits.calls k a0_1 8 tAv _ A3.out).mono ?_); rintro e w' ⟨rfl, ⟨nd, rfl⟩⟩; (try first | exact ⟨rfl, _, World.drewN_drewN _ _ _⟩ | exact ⟨rfl, _, Eq.trans (World.drewN_drewN _ _ _) (congrArg (World.drewN _) (Nat.add_assoc _ _ _))⟩))); try go_wp2_with (first | ((with_reducible refine gate_dst (N := 1) rfl ?_); refine be_ 1 #[.int .i64 a0_0, .int .i64 a0_1] 26 ?_; intro gbAk hg w5 hbox hb; have n0_ := bs_ HB hb; have n1_ := Aside0.mk (hbox); have n2_ := Aside0.mk ((by rw [hg]; exact (below_size (pH_ HB.out)) : w.heap.size ≤ gbAk)); have n3_ := Aside0.mk ((by rw [hg]; exact (below_size (pH_ HB.out)) : w.heap.size ≤ gbAk)); clear HB; have HB := n0_; have BKAk := n1_; have GWAk := n2_; have GEAk := n3_; clear n0_ n1_ n2_ n3_; clear hb hbox hg; have hcz6_0 : w5.cell? ⟨gbAk, 0, none⟩ = some (.int .i64 a0_0) := bc_ BKAk 0; have hcz6_1 : w5.cell? ⟨gbAk, 1, none⟩ = some (.int .i64 a0_1) := bc_ BKAk 1; have hfz6_0 := blk_frozen BKAk.out 0; have hfz6_1 := blk_frozen BKAk.out 1) | (go_at_call 28; (with_reducible refine (plaitingref1_Bits.calls k a0_0 2 tAu _ A2.out).mono ?_); rintro e w' ⟨rfl, ⟨nd, rfl⟩⟩; (try first | exact ⟨rfl, _, World.drewN_drewN _ _ _⟩ | exact ⟨rfl, _, Eq.trans (World.drewN_drewN _ _ _) (congrArg (World.drewN _) (Nat.add_assoc _ _ _))⟩)) | (go_at_call 28; (with_reducible refine (plaitingref1_Bits.calls k a0_1 8 tAv _ A3.out).mono ?_); rintro e w' ⟨rfl, ⟨nd, rfl⟩⟩; (try first | exact ⟨rfl, _, World.drewN_drewN _ _ _⟩ | exact ⟨rfl, _, Eq.trans (World.drewN_drewN _ _ _) (congrArg (World.drewN _) (Nat.add_assoc _ _ _))⟩))))
  go_ret
  exact ⟨by first | rfl | (simp [errW_none, errW_some] <;> rfl) | (simp [*, errW_none, errW_some] <;> rfl), pH_ HB.out⟩
 ·
  rw [if_neg c4] at H
  exact absurd H (by simp)
def plaitingref5_Text.l0 : Nat → ByteArray → Int → Int → Int → Int → Int → Int → List (S26) → Option (ByteArray)
 | 0, _, _, _, _, _, _, _, _ => none
 | k + 1, x5, x6, xAj000, xAj001, xAj002, xAj003, xAj004, xAj005 => if x6 < (xAj005.length : Int) then (if 0 ≤ x6 then ((plaitingref5_bits.f k ((rd_T26 xAj005 x6).f0) ((rd_T26 xAj005 x6).f1)).bind fun tAy => (if x5.size + tAy.size ≤ 9223372036854775807 then (plaitingref5_Text.l0 k (x5 ++ tAy) (wrap64 (x6 + 1)) xAj000 xAj001 xAj002 xAj003 xAj004 xAj005) else (none))) else (none)) else ((plaitingref2_Wrap.f k x5).bind fun tBg => (some tBg))
def plaitingref5_Text.f (k : Nat) (a0_0 : Int) (a0_1 : Int) (a0_2 : Int) (a0_3 : Int) (a0_4 : Int) (l0_5 : List Int) (a1_0 : Int) (a1_1 : Int) (a1_2 : Int) (a1_3 : Int) (a1_4 : Int) (l1_5 : List (S26)) : Option (ByteArray) := (plaitingref1_Bits.f k a1_0 2).bind fun tAj => ((plaitingref1_Bits.f k a1_1 16).bind fun tAq => (if tAj.size + tAq.size ≤ 9223372036854775807 then ((plaitingref1_Bits.f k a1_2 6).bind fun tAt => (if (tAj ++ tAq).size + tAt.size ≤ 9223372036854775807 then ((plaitingref5_bits.f k a1_3 a1_4).bind fun tAx => (if ((tAj ++ tAq) ++ tAt).size + tAx.size ≤ 9223372036854775807 then (plaitingref5_Text.l0 k (((tAj ++ tAq) ++ tAt) ++ tAx) 0 a1_0 a1_1 a1_2 a1_3 a1_4 l1_5) else (none))) else (none))) else (none)))
def plaitingref5_Text.T1 : Bool × List (List Nat × List Nat) := (true, [([], []), ([0], [0]), ([1], [1]), ([], []), ([3], [3]), ([4, 2], [4]), ([2, 5], [2, 5]), ([], []), ([7], [7]), ([8, 5], [8]), ([6, 9], [6, 9]), ([], []), ([11], [11]), ([12, 9], [12]), ([10, 13], [10, 13]), ([14, 13, 0, 1, 2, 3, 4, 5, 6, 7, 8, 9, 10, 11, 12, 13, 14], [14])])
def plaitingref5_Text.B1 : List Nat := [0, 1, 3, 0, 8, 31, 63, 0, 128, 447, 1023, 0, 2048, 7103, 16383, 32767]
theorem plaitingref5_Text.tab1 : rtab .any (opsOf Try.f31 1) = plaitingref5_Text.T1 := by kernel_rfl
theorem plaitingref5_Text.bits1 : waitsOk plaitingref5_Text.T1.2 plaitingref5_Text.B1 = true := by kernel_rfl
set_option maxHeartbeats 8000000 in
set_option maxRecDepth 100000 in
theorem plaitingref5_Text.calls (k : Nat) (a0_0 : Int) (a0_1 : Int) (a0_2 : Int) (a0_3 : Int) (a0_4 : Int) (A0_5 : Option Addr) (c0_5 : Nat) (l0_5 : List Int) (a1_0 : Int) (a1_1 : Int) (a1_2 : Int) (a1_3 : Int) (a1_4 : Int) (A1_5 : Option Addr) (c1_5 : Nat) (l1_5 : List (S26)) (r : ByteArray) (w : World) (hr0_5 : Kd.C (Kd.int .i64) w A0_5 l0_5.length l0_5) (hc0_5 : l0_5.length ≤ c0_5) (hr1_5 : Kd.C k26 w A1_5 l1_5.length l1_5) (hc1_5 : l1_5.length ≤ c1_5) (h : plaitingref5_Text.f k a0_0 a0_1 a0_2 a0_3 a0_4 l0_5 a1_0 a1_1 a1_2 a1_3 a1_4 l1_5 = some r) :
  Calls Try.prog 31 #[.agg #[.int .i64 a0_0, .int .i64 a0_1, .int .i64 a0_2, .int .i64 a0_3, .int .i64 a0_4, .slice A0_5 l0_5.length c0_5], .agg #[.int .i64 a1_0, .int .i64 a1_1, .int .i64 a1_2, .int .i64 a1_3, .int .i64 a1_4, .slice A1_5 l1_5.length c1_5]] w fun e w' => e = .returned (.string r) ∧ Below w.heap.size w w' := by
 have hu24 := Try.underlying24
 have hu29 := Try.underlying29
 have hu26 := Try.underlying26
 have HR0_5 := Aside0.mk hr0_5
 have HC0_5 := Aside0.mk hc0_5
 clear hr0_5 hc0_5
 have HR1_5 := Aside0.mk hr1_5
 have HC1_5 := Aside0.mk hc1_5
 clear hr1_5 hc1_5
 have HB := Aside0.mk (Below.refl w.heap.size w)
 have H : ((plaitingref1_Bits.f k a1_0 2).bind fun tAj => ((plaitingref1_Bits.f k a1_1 16).bind fun tAq => (if tAj.size + tAq.size ≤ 9223372036854775807 then ((plaitingref1_Bits.f k a1_2 6).bind fun tAt => (if (tAj ++ tAq).size + tAt.size ≤ 9223372036854775807 then ((plaitingref5_bits.f k a1_3 a1_4).bind fun tAx => (if ((tAj ++ tAq) ++ tAt).size + tAx.size ≤ 9223372036854775807 then (plaitingref5_Text.l0 k (((tAj ++ tAq) ++ tAt) ++ tAx) 0 a1_0 a1_1 a1_2 a1_3 a1_4 l1_5) else (none))) else (none))) else (none)))) = some r := h
 clear h
 replace H := Option.bind_eq_some_iff.mp H
 obtain ⟨tAj, A30, H⟩ := H
 try dsimp only at H
 have A3 := Aside0.mk A30
 clear A30
 replace H := Option.bind_eq_some_iff.mp H
 obtain ⟨tAq, A40, H⟩ := H
 try dsimp only at H
 have A4 := Aside0.mk A40
 clear A40
 by_cases c5 : tAj.size + tAq.size ≤ 9223372036854775807
 ·
  rw [if_pos c5] at H
  have c5b0 := eq_true c5
  have c5b1 : decide (tAj.size + tAq.size ≤ 9223372036854775807) = true := decide_eq_true c5
  try have c5b2 : (9223372036854775807 < tAj.size + tAq.size) = False := eq_false (Nat.not_lt.2 c5)
  replace H := Option.bind_eq_some_iff.mp H
  obtain ⟨tAt, A60, H⟩ := H
  try dsimp only at H
  have A6 := Aside0.mk A60
  clear A60
  by_cases c7 : (tAj ++ tAq).size + tAt.size ≤ 9223372036854775807
  ·
   rw [if_pos c7] at H
   have c7b0 := eq_true c7
   have c7b1 : decide ((tAj ++ tAq).size + tAt.size ≤ 9223372036854775807) = true := decide_eq_true c7
   try have c7b2 : (9223372036854775807 < (tAj ++ tAq).size + tAt.size) = False := eq_false (Nat.not_lt.2 c7)
   replace H := Option.bind_eq_some_iff.mp H
   obtain ⟨tAx, A80, H⟩ := H
   try dsimp only at H
   have A8 := Aside0.mk A80
   clear A80
   by_cases c9 : ((tAj ++ tAq) ++ tAt).size + tAx.size ≤ 9223372036854775807
   ·
    rw [if_pos c9] at H
    have c9b0 := eq_true c9
    have c9b1 : decide (((tAj ++ tAq) ++ tAt).size + tAx.size ≤ 9223372036854775807) = true := decide_eq_true c9
    try have c9b2 : (9223372036854775807 < ((tAj ++ tAq) ++ tAt).size + tAx.size) = False := eq_false (Nat.not_lt.2 c9)
    have H' := Aside0.mk H
    clear H
    go_enter Try.func31, Try.ntmps31
    try go_wp2_with (first | ((with_reducible refine gate_dst (N := 2) rfl ?_); refine be_ 2 #[.int .i64 a0_0, .int .i64 a0_1, .int .i64 a0_2, .int .i64 a0_3, .int .i64 a0_4, .slice A0_5 l0_5.length c0_5] 24 ?_; intro gbAi hg w10 hbox hb; have n0_ := bs_ HB hb; have n1_ := Aside0.mk (hbox); have n2_ := Aside0.mk ((by rw [hg]; exact (below_size (pH_ HB.out)) : w.heap.size ≤ gbAi)); have n3_ := Aside0.mk ((by rw [hg]; exact (below_size (pH_ HB.out)) : w.heap.size ≤ gbAi)); clear HB; have HB := n0_; have BKAi := n1_; have GWAi := n2_; have GEAi := n3_; clear n0_ n1_ n2_ n3_; clear hb hbox hg) | ((with_reducible refine gate_dst (N := 3) rfl ?_); refine be_ 3 #[.int .i64 a1_0, .int .i64 a1_1, .int .i64 a1_2, .int .i64 a1_3, .int .i64 a1_4, .slice A1_5 l1_5.length c1_5] 29 ?_; intro gbAg hg w11 hbox hb; have n0_ := Aside0.mk (blk_below (g := gbAi) (o := .cells #[.int .i64 a0_0, .int .i64 a0_1, .int .i64 a0_2, .int .i64 a0_3, .int .i64 a0_4, .slice A0_5 l0_5.length c0_5] 24 (0, 0)) (pB_ BKAi.out) hb); have n1_ := bs_ HB hb; have n2_ := Aside0.mk (hbox); have n3_ := Aside0.mk ((by rw [hg]; exact (below_size (pH_ HB.out)) : w.heap.size ≤ gbAg)); have n4_ := Aside0.mk ((by rw [hg]; exact (below_size (pH_ HB.out)) : w.heap.size ≤ gbAg)); have n5_ := Aside0.mk ((by rw [hg]; exact Nat.ne_of_lt (blk_lt (g := gbAi) (o := .cells #[.int .i64 a0_0, .int .i64 a0_1, .int .i64 a0_2, .int .i64 a0_3, .int .i64 a0_4, .slice A0_5 l0_5.length c0_5] 24 (0, 0)) (pB_ BKAi.out)) : gbAi ≠ gbAg)); have n6_ := Aside0.mk ((by rw [hg]; exact Nat.ne_of_gt (blk_lt (g := gbAi) (o := .cells #[.int .i64 a0_0, .int .i64 a0_1, .int .i64 a0_2, .int .i64 a0_3, .int .i64 a0_4, .slice A0_5 l0_5.length c0_5] 24 (0, 0)) (pB_ BKAi.out)) : gbAg ≠ gbAi)); clear BKAi; clear HB; have BKAi := n0_; have HB := n1_; have BKAg := n2_; have GWAg := n3_; have GEAg := n4_; have NBAi_Ag := n5_; have NBAg_Ai := n6_; clear n0_ n1_ n2_ n3_ n4_ n5_ n6_; clear hb hbox hg))
    have n0_ := Aside0.mk (blk_drew BKAi.out)
    have n1_ := Aside0.mk (blk_drew BKAg.out)
    have n2_ := Aside0.mk (below_drew1 HB.out)
    clear BKAi
    clear BKAg
    clear HB
    have BKAi := n0_
    have BKAg := n1_
    have HB := n2_
    clear n0_ n1_ n2_
    refine start_ (n := 16) (S := fun w' => w'.cell? ⟨gbAg, 0, none⟩ = some (.int .i64 a1_0) ∧ w'.cell? ⟨gbAg, 1, none⟩ = some (.int .i64 a1_1) ∧ w'.cell? ⟨gbAg, 2, none⟩ = some (.int .i64 a1_2) ∧ w'.cell? ⟨gbAg, 3, none⟩ = some (.int .i64 a1_3) ∧ w'.cell? ⟨gbAg, 4, none⟩ = some (.int .i64 a1_4) ∧ w'.cell? ⟨gbAg, 5, none⟩ = some (.slice A1_5 l1_5.length c1_5)) (ds := []) #[false, false, false, false, false, false, false, false, false, false, false, false, false, false, false, false] (by kernel_rfl) rfl rfl ⟨bc_ BKAg 0, bc_ BKAg 1, bc_ BKAg 2, bc_ BKAg 3, bc_ BKAg 4, bc_ BKAg 5⟩ (fun hHeld => ?_); refine with_tabW plaitingref5_Text.tab1 plaitingref5_Text.bits1 (fun HT_ HW_ => ?_)
    generalize w11.drew = w12 at BKAi BKAg HB hHeld ⊢
    refine pq_ 0 7 HT_ ?_
    refine pq_ 3 10 HT_ ?_
    refine pq_ 7 14 HT_ ?_
    refine pq_ 11 18 HT_ ?_
    refine tq_ 1 8 HT_ HW_ hHeld ?_
    refine tq_ 4 11 HT_ HW_ hHeld ?_
    refine tq_ 8 15 HT_ HW_ hHeld ?_
    refine tq_ 12 19 HT_ HW_ hHeld ?_
    refine oq_ 2 9 HT_ (fun K hK => ?_)
    refine gs_ Try.func28 #[.int .i64 a1_0, .int .i64 2] ?_
    with_reducible refine (plaitingref1_Bits.calls k a1_0 2 tAj _ A3.out).mono ?_
    rintro e w' ⟨rfl, ⟨nd, rfl⟩⟩
    refine ⟨_, rfl, ?_⟩
    refine hK.out _ _ ⟨bc_ BKAg 0, bc_ BKAg 1, bc_ BKAg 2, bc_ BKAg 3, bc_ BKAg 4, bc_ BKAg 5⟩ (fun hHeld => ?_)
    clear hK K
    refine nq_ 9 ?_
    refine oq_ 5 12 HT_ (fun K hK => ?_)
    refine gs_ Try.func28 #[.int .i64 a1_1, .int .i64 16] ?_
    with_reducible refine (plaitingref1_Bits.calls k a1_1 16 tAq _ A4.out).mono ?_
    rintro e w' ⟨rfl, ⟨nd, rfl⟩⟩
    refine ⟨_, rfl, ?_⟩
    refine hK.out _ _ ⟨bc_ BKAg 0, bc_ BKAg 1, bc_ BKAg 2, bc_ BKAg 3, bc_ BKAg 4, bc_ BKAg 5⟩ (fun hHeld => ?_)
    clear hK K
    refine nq_ 12 ?_
    refine pq_ 6 13 HT_ ?_
    refine oq_ 9 16 HT_ (fun K hK => ?_)
    refine gs_ Try.func28 #[.int .i64 a1_2, .int .i64 6] ?_
    with_reducible refine (plaitingref1_Bits.calls k a1_2 6 tAt _ A6.out).mono ?_
    rintro e w' ⟨rfl, ⟨nd, rfl⟩⟩
    refine ⟨_, rfl, ?_⟩
    refine hK.out _ _ ⟨bc_ BKAg 0, bc_ BKAg 1, bc_ BKAg 2, bc_ BKAg 3, bc_ BKAg 4, bc_ BKAg 5⟩ (fun hHeld => ?_)
    clear hK K
    refine nq_ 16 ?_
    refine pq_ 10 17 HT_ ?_
    refine oq_ 13 20 HT_ (fun K hK => ?_)
    refine gs_ Try.func63 #[.agg #[.int .i64 a1_3, .int .i64 a1_4]] ?_
    with_reducible refine (plaitingref5_bits.calls k a1_3 a1_4 tAx _ A8.out).mono ?_
    rintro e w13 ⟨rfl, hb⟩
    refine ⟨_, rfl, ?_⟩
    have n0_ := Aside0.mk (blk_below (g := gbAi) (o := .cells #[.int .i64 a0_0, .int .i64 a0_1, .int .i64 a0_2, .int .i64 a0_3, .int .i64 a0_4, .slice A0_5 l0_5.length c0_5] 24 (0, 0)) (pB_ BKAi.out) hb)
    have n1_ := Aside0.mk (blk_below (g := gbAg) (o := .cells #[.int .i64 a1_0, .int .i64 a1_1, .int .i64 a1_2, .int .i64 a1_3, .int .i64 a1_4, .slice A1_5 l1_5.length c1_5] 29 (0, 0)) (pB_ BKAg.out) hb)
    have n2_ := bs_ HB hb
    clear BKAi
    clear BKAg
    clear HB
    have BKAi := n0_
    have BKAg := n1_
    have HB := n2_
    clear n0_ n1_ n2_
    (try clear hb)
    (try clear hb2)
    (try clear hk)
    (try clear hi)
    refine hK.out _ _ ⟨bc_ BKAg 0, bc_ BKAg 1, bc_ BKAg 2, bc_ BKAg 3, bc_ BKAg 4, bc_ BKAg 5⟩ (fun hHeld => ?_)
    clear hK K
    refine nq_ 20 ?_
    refine pq_ 14 21 HT_ ?_
    refine pq_ 15 5 HT_ ?_
    refine done_ (done_of HT_.out (by kernel_rfl)) ?_
    try go_wp2
    go_loopg [5, 6] k (fun kq v5 v6 w' => ∃ (x5_1 : ByteArray) (x6_1 : Int), v5 = .string x5_1 ∧ v6 = .int .i64 x6_1 ∧ Aside0 (plaitingref5_Text.l0 kq x5_1 x6_1 a1_0 a1_1 a1_2 a1_3 a1_4 l1_5 = some r) ∧ Aside0 (kq ≤ k) ∧ Aside0 (w'.heap[gbAi]? = some (.cells #[.int .i64 a0_0, .int .i64 a0_1, .int .i64 a0_2, .int .i64 a0_3, .int .i64 a0_4, (.slice A0_5 l0_5.length c0_5)] 24 (0, 0))) ∧ Aside0 (w'.heap[gbAg]? = some (.cells #[.int .i64 a1_0, .int .i64 a1_1, .int .i64 a1_2, .int .i64 a1_3, .int .i64 a1_4, (.slice A1_5 l1_5.length c1_5)] 29 (0, 0))) ∧ Aside0 (Below w.heap.size w w'))
    case atStart => exact ⟨(((tAj ++ tAq) ++ tAt) ++ tAx), (0), (by first | rfl | (simp; done) | (simp [*]; done)), (by first | rfl | (simp; done) | (simp [*]; done)), H', ⟨Nat.le_refl _⟩, ⟨pB_ BKAi.out⟩, ⟨pB_ BKAg.out⟩, ⟨pH_ HB.out⟩⟩
    case round =>
     clear H'
     try clear c1
     try clear c2
     try clear p2
     try clear c3
     try clear c5
     try clear c5b0
     try clear c5b1
     try clear c5b2
     try clear c6
     try clear c7
     try clear c7b0
     try clear c7b1
     try clear c7b2
     try clear c9
     try clear c9b0
     try clear c9b1
     try clear c9b2
     obtain ⟨x5_1, x6_1, rfl, rfl, HA, HK1, BKAi, BKAg, HB⟩ := hrel
     cases gk with
     | zero => exact absurd HA.out (by simp [plaitingref5_Text.l0])
     | succ k1 =>
      have H := HA.out
      clear HA
      simp only [plaitingref5_Text.l0] at H
      by_cases c14 : x6_1 < (l1_5.length : Int)
      ·
       rw [if_pos c14] at H
       have c14b0 : decide (x6_1 < (l1_5.length : Int)) = true := decide_eq_true c14
       clear c14
       by_cases c15 : 0 ≤ x6_1
       ·
        rw [if_pos c15] at H
        have c15b0 : decide (0 ≤ x6_1) = true := decide_eq_true c15
        clear c15
        replace H := Option.bind_eq_some_iff.mp H
        obtain ⟨tAy, A160, H⟩ := H
        try dsimp only at H
        have A16 := Aside0.mk A160
        clear A160
        by_cases c17 : x5_1.size + tAy.size ≤ 9223372036854775807
        ·
         rw [if_pos c17] at H
         have c17b0 := eq_true c17
         have c17b1 : decide (x5_1.size + tAy.size ≤ 9223372036854775807) = true := decide_eq_true c17
         try have c17b2 : (9223372036854775807 < x5_1.size + tAy.size) = False := eq_false (Nat.not_lt.2 c17)
         have H' := Aside0.mk H
         clear H
         have hnb18 := NBAg_Ai.out
         have hnc18 := NBAi_Ag.out
         obtain ⟨hcz19_0, hcz19_1, hcz19_2, hcz19_3, hcz19_4, hcz19_5⟩ := c6_ BKAg
         obtain ⟨hfz19_0, hfz19_1, hfz19_2, hfz19_3, hfz19_4, hfz19_5⟩ := f6_ BKAg
         have pAr : 0 ≤ (x6_1 : Int) := of_decide_eq_true (by first | (with_reducible assumption) | assumption)
         have qAr : x6_1 < (l1_5.length : Int) := of_decide_eq_true (by first | (with_reducible assumption) | assumption)
         obtain ⟨adAr, eAr, hxAr_0, hxAr_1⟩ := at_T26 HR1_5.out x6_1 pAr qAr
         cases eAr
         replace hxAr_0 := (HB.out.cell (World.block_lt_of_cell? w _ hxAr_0)).trans hxAr_0
         replace hxAr_1 := (HB.out.cell (World.block_lt_of_cell? w _ hxAr_1)).trans hxAr_1
         replace pAr := eq_true pAr
         replace qAr := eq_true qAr
         go_wp2_with (first | ((with_reducible refine gate_callee (f := 63) rfl ?_); refine gL_ 35 Try.func63 #[.agg #[.int .i64 ((rd_T26 l1_5 x6_1).f0), .int .i64 ((rd_T26 l1_5 x6_1).f1)]] ?_; (with_reducible refine (plaitingref5_bits.calls k1 ((rd_T26 l1_5 x6_1).f0) ((rd_T26 l1_5 x6_1).f1) tAy _ A16.out).mono ?_); rintro e w20 ⟨rfl, hb⟩; refine ⟨_, rfl, ?_⟩; have n0_ := Aside0.mk (blk_below (g := gbAi) (o := .cells #[.int .i64 a0_0, .int .i64 a0_1, .int .i64 a0_2, .int .i64 a0_3, .int .i64 a0_4, .slice A0_5 l0_5.length c0_5] 24 (0, 0)) (pB_ BKAi.out) hb); have n1_ := Aside0.mk (blk_below (g := gbAg) (o := .cells #[.int .i64 a1_0, .int .i64 a1_1, .int .i64 a1_2, .int .i64 a1_3, .int .i64 a1_4, .slice (some adAr) l1_5.length c1_5] 29 (0, 0)) (pB_ BKAg.out) hb); have n2_ := bs_ HB hb; clear BKAi; clear BKAg; clear HB; have BKAi := n0_; have BKAg := n1_; have HB := n2_; clear n0_ n1_ n2_; (try clear hb); (try clear hb2); (try clear hk); (try clear hi)))
         go_roundg k1
         case measure => have := HK1.out; omega
         case rel => exact ⟨(x5_1 ++ tAy), (wrap64 (x6_1 + 1)), (by first | rfl | (simp; done) | (simp [*]; done)), (by first | rfl | (simp; done) | (simp [*]; done)), H', ⟨by have := HK1.out; omega⟩, ⟨pB_ BKAi.out⟩, ⟨pB_ BKAg.out⟩, ⟨pH_ HB.out⟩⟩
        ·
         rw [if_neg c17] at H
         exact absurd H (by simp)
       ·
        rw [if_neg c15] at H
        exact absurd H (by simp)
      ·
       rw [if_neg c14] at H
       have c14b0 : decide (x6_1 < (l1_5.length : Int)) = false := decide_eq_false c14
       clear c14
       replace H := Option.bind_eq_some_iff.mp H
       obtain ⟨tBg, A210, H⟩ := H
       try dsimp only at H
       have A21 := Aside0.mk A210
       clear A210
       obtain rfl := Option.some.inj H
       have hnb22 := NBAg_Ai.out
       have hnc22 := NBAi_Ag.out
       obtain ⟨hcz23_0, hcz23_1, hcz23_2, hcz23_3, hcz23_4, hcz23_5⟩ := c6_ BKAg
       obtain ⟨hfz23_0, hfz23_1, hfz23_2, hfz23_3, hfz23_4, hfz23_5⟩ := f6_ BKAg
       go_wp2_with (first | ((with_reducible refine gate_callee (f := 34) rfl ?_); refine gL_ 38 Try.func34 #[.string x5_1] ?_; (with_reducible refine (plaitingref2_Wrap.calls k1 x5_1 tBg _ A21.out).mono ?_); rintro e w' ⟨rfl, ⟨nd, rfl⟩⟩; refine ⟨_, rfl, ?_⟩))
       go_ret
       exact ⟨by first | rfl | (simp [errW_none, errW_some] <;> rfl) | (simp [*, errW_none, errW_some] <;> rfl), pH_ HB.out⟩
   ·
    rw [if_neg c9] at H
    exact absurd H (by simp)
  ·
   rw [if_neg c7] at H
   exact absurd H (by simp)
 ·
  rw [if_neg c5] at H
  exact absurd H (by simp)
def plaitingref5_number.f (k : Nat) (a0 : ByteArray) : Option (Int) := (plaitingref1_Num.f k a0).bind fun btBc => (some btBc.1)
set_option maxHeartbeats 8000000 in
set_option maxRecDepth 100000 in
theorem plaitingref5_number.calls (k : Nat) (a0 : ByteArray) (r : Int) (w : World) (h : plaitingref5_number.f k a0 = some r) :
  Calls Try.prog 71 #[.string a0] w fun e w' => e = .returned (.int .i64 r) ∧ Drawn0 w w' := by
 have H : ((plaitingref1_Num.f k a0).bind fun btBc => (some btBc.1)) = some r := h
 clear h
 replace H := Option.bind_eq_some_iff.mp H
 obtain ⟨⟨tBc, tBh⟩, A20, H⟩ := H
 try dsimp only at H
 have A2 := Aside0.mk A20
 clear A20
 obtain rfl := Option.some.inj H
 go_enter Try.func71, Try.ntmps71
 go_wp2_with (first | ((with_reducible refine gate_callee (f := 82) rfl ?_); refine gL_ 7 Try.func82 #[.string a0] ?_; (with_reducible refine (plaitingref1_Num.calls k a0 tBc tBh _ A2.out).mono ?_); rintro e w' ⟨rfl, ⟨nd, rfl⟩⟩; refine ⟨_, rfl, ?_⟩))
 go_ret
 exact ⟨by first | rfl | (simp; done) | (simp [*]; done), by repeat (first | exact Drawn0.refl _ | apply Drawn0.step)⟩
def plaitingref5_read.f (k : Nat) (a0 : ByteArray) : Option (Int × Int) := if 0 ≤ 2 then (if 2 ≤ (a0.size : Int) then ((plaitingref5_number.f k (a0.extract 0 2)).bind fun tAz => (if 2 ≤ 10 then (if 10 ≤ (a0.size : Int) then ((plaitingref5_number.f k (a0.extract 2 10)).bind fun tBa => (some (tAz, tBa))) else (none)) else (none))) else (none)) else (none)
def plaitingref5_read.T1 : Bool × List (List Nat × List Nat) := (true, [([], []), ([0], [0]), ([1], [1]), ([], []), ([3], [3]), ([4, 2], [4]), ([2, 5], [2, 5]), ([6, 5, 0, 1, 2, 3, 4, 5, 6], [6])])
def plaitingref5_read.B1 : List Nat := [0, 1, 3, 0, 8, 31, 63, 127]
theorem plaitingref5_read.tab1 : rtab .any (opsOf Try.f72 1) = plaitingref5_read.T1 := by kernel_rfl
theorem plaitingref5_read.bits1 : waitsOk plaitingref5_read.T1.2 plaitingref5_read.B1 = true := by kernel_rfl
set_option maxHeartbeats 8000000 in
set_option maxRecDepth 100000 in
theorem plaitingref5_read.calls (k : Nat) (a0 : ByteArray) (r1 : Int) (r2 : Int) (w : World) (h : plaitingref5_read.f k a0 = some (r1, r2)) :
  Calls Try.prog 72 #[.string a0] w fun e w' => e = .returned (.agg #[.int .i64 r1, .int .i64 r2]) ∧ Below w.heap.size w w' := by
 have hu26 := Try.underlying26
 have HB := Aside0.mk (Below.refl w.heap.size w)
 have H : (if 0 ≤ 2 then (if 2 ≤ (a0.size : Int) then ((plaitingref5_number.f k (a0.extract 0 2)).bind fun tAz => (if 2 ≤ 10 then (if 10 ≤ (a0.size : Int) then ((plaitingref5_number.f k (a0.extract 2 10)).bind fun tBa => (some (tAz, tBa))) else (none)) else (none))) else (none)) else (none)) = some (r1, r2) := h
 clear h
 by_cases c2 : 0 ≤ 2
 ·
  rw [if_pos c2] at H
  have c2b0 := eq_true c2
  have c2b1 : decide (0 ≤ 2) = true := decide_eq_true c2
  clear c2
  by_cases c3 : 2 ≤ (a0.size : Int)
  ·
   rw [if_pos c3] at H
   have c3b0 := eq_true c3
   have c3b1 : decide (2 ≤ (a0.size : Int)) = true := decide_eq_true c3
   clear c3
   replace H := Option.bind_eq_some_iff.mp H
   obtain ⟨tAz, A40, H⟩ := H
   try dsimp only at H
   have A4 := Aside0.mk A40
   clear A40
   by_cases c5 : 2 ≤ 10
   ·
    rw [if_pos c5] at H
    have c5b0 := eq_true c5
    have c5b1 : decide (2 ≤ 10) = true := decide_eq_true c5
    clear c5
    by_cases c6 : 10 ≤ (a0.size : Int)
    ·
     rw [if_pos c6] at H
     have c6b0 := eq_true c6
     have c6b1 : decide (10 ≤ (a0.size : Int)) = true := decide_eq_true c6
     clear c6
     replace H := Option.bind_eq_some_iff.mp H
     obtain ⟨tBa, A70, H⟩ := H
     try dsimp only at H
     have A7 := Aside0.mk A70
     clear A70
     simp only [Option.some.injEq, Prod.mk.injEq] at H
     obtain ⟨rfl, rfl⟩ := H
     go_enter Try.func72, Try.ntmps72
     try go_wp2_with (first | ((with_reducible refine gate_dst (N := 2) rfl ?_); refine be_ 2 #[.int .i64 0, .int .i64 0] 26 ?_; intro gbAs hg w8 hbox hb; have n0_ := bs_ HB hb; have n1_ := Aside0.mk (hbox); have n2_ := Aside0.mk ((by rw [hg]; exact (below_size (pH_ HB.out)) : w.heap.size ≤ gbAs)); have n3_ := Aside0.mk ((by rw [hg]; exact (below_size (pH_ HB.out)) : w.heap.size ≤ gbAs)); clear HB; have HB := n0_; have BKAs := n1_; have GWAs := n2_; have GEAs := n3_; clear n0_ n1_ n2_ n3_; clear hb hbox hg))
     have n0_ := Aside0.mk (blk_drew BKAs.out)
     have n1_ := Aside0.mk (below_drew1 HB.out)
     clear BKAs
     clear HB
     have BKAs := n0_
     have HB := n1_
     clear n0_ n1_
     refine start_ (n := 8) (S := fun w' => True) (ds := []) #[false, false, false, false, false, false, false, false] (by kernel_rfl) rfl rfl trivial (fun hHeld => ?_); refine with_tabW plaitingref5_read.tab1 plaitingref5_read.bits1 (fun HT_ HW_ => ?_)
     generalize w8.drew = w9 at BKAs HB hHeld ⊢
     refine pq_ 0 3 HT_ ?_
     refine pq_ 1 4 HT_ ?_
     refine pq_ 3 6 HT_ ?_
     refine pq_ 4 7 HT_ ?_
     refine oq_ 2 5 HT_ (fun K hK => ?_)
     refine gs_ Try.func71 #[.string (a0.extract 0 2)] ?_
     with_reducible refine (plaitingref5_number.calls k (a0.extract 0 2) tAz _ A4.out).mono ?_
     rintro e w' ⟨rfl, ⟨nd, rfl⟩⟩
     refine ⟨_, rfl, ?_⟩
     refine hK.out _ _ trivial (fun hHeld => ?_)
     clear hK K
     refine nq_ 5 ?_
     refine oq_ 5 8 HT_ (fun K hK => ?_)
     refine gs_ Try.func71 #[.string (a0.extract 2 10)] ?_
     with_reducible refine (plaitingref5_number.calls k (a0.extract 2 10) tBa _ A7.out).mono ?_
     rintro e w' ⟨rfl, ⟨nd, rfl⟩⟩
     refine ⟨_, rfl, ?_⟩
     refine hK.out _ _ trivial (fun hHeld => ?_)
     clear hK K
     refine nq_ 8 ?_
     refine pq_ 6 9 HT_ ?_
     refine one_ (i := 7) (N := none) #[true, true, true, true, true, true, true, true] rfl rfl (one_of HT_.out (by kernel_rfl)) (by decide) (fun K hK => ?_)
     have hs10 : w9.cell? ⟨gbAs, 0, none⟩ = some (.int .i64 0) := bc_ BKAs 0
     have hs11 : w9.cell? ⟨gbAs, 1, none⟩ = some (.int .i64 0) := bc_ BKAs 1
     have hfs10 := blk_frozen BKAs.out 0
     have hfs11 := blk_frozen BKAs.out 1
     refine skip_ (w1 := ?_) (by rfl) rfl ?_ ?_
     rotate_left
     ·
      go_simp
      rfl
     refine hK.out _ _ trivial (fun hHeld => ?_)
     clear hK K
     refine done_ (done_of HT_.out (by kernel_rfl)) ?_
     try go_wp2
     refine bodyPost_ret (results_cell_row rfl _ _ gbAs 26 #[.int .i64 tAz, .int .i64 tBa] (0, 0) _ rfl (by (with_reducible repeat (first | refine blk_drewN ?_ _ | refine blk_drew ?_ | refine blk_alloc ?_ _)); refine blk_put (cs := #[.int .i64 tAz, .int .i64 0]) ?_ 1 _ rfl; (with_reducible repeat (first | refine blk_drewN ?_ _ | refine blk_drew ?_ | refine blk_alloc ?_ _)); refine blk_put (cs := #[.int .i64 0, .int .i64 0]) ?_ 0 _ rfl; (with_reducible repeat (first | refine blk_drewN ?_ _ | refine blk_drew ?_ | refine blk_alloc ?_ _)); exact BKAs.out) Try.underlying26 rfl (by kernel_rfl)) rfl ?_
     exact ⟨by first | rfl | (simp [errW_none, errW_some] <;> rfl) | (simp [*, errW_none, errW_some] <;> rfl), pH_ HB.out⟩
    ·
     rw [if_neg c6] at H
     exact absurd H (by simp)
   ·
    rw [if_neg c5] at H
    exact absurd H (by simp)
  ·
   rw [if_neg c3] at H
   exact absurd H (by simp)
 ·
  rw [if_neg c2] at H
  exact absurd H (by simp)
end Go.Proofs.Ytcpohmfkmgcjkaa.P
