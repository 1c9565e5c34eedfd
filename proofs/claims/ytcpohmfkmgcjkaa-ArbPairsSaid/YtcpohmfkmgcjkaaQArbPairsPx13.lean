/- Printed by a program of this session (myprint) out of the translation: the functions as plain Lean functions, and that the calls compute them. What counts is Lean's check. -/
import Derived.Test.YtcpohmfkmgcjkaaQArbPairsPx11
import Derived.Test.YtcpohmfkmgcjkaaQArbPairsPx19
import Derived.Test.YtcpohmfkmgcjkaaQArbPairsPx39
namespace Go.Proofs.Ytcpohmfkmgcjkaa.P
open Go.RowKit Go.Proofs.YtcpohmfkmgcjkaaW.PrintWords Go.Proofs.YtcpohmfkmgcjkaaW.PrintLast Go.Proofs.YtcpohmfkmgcjkaaW.PrintMore
attribute [local go_sem] max2_int min2_int max_two min_two max_three min_three max_four min_four
set_option linter.unusedVariables false
set_option linter.unusedSimpArgs false
attribute [-simp] ByteArray.size_extract ByteArray.size_append ByteArray.extract_append_extract
attribute [-go_sem] ByteArray.size_append'
attribute [local go_sem high] eqA26
def plaitingref5_Items.l0 : Nat → List (S26) → List (S26) → Int → Option (Bool)
 | 0, _, _, _ => none
 | k + 1, x0, x1, x5 => if x5 < (x0.length : Int) then (if 0 ≤ x5 then (if x5 < (x1.length : Int) then (if (!(((rd_T26 x0 x5).f0) == ((rd_T26 x1 x5).f0)) || (!(((rd_T26 x0 x5).f1) == ((rd_T26 x1 x5).f1)))) = true then (some false) else (plaitingref5_Items.l0 k x0 x1 (wrap64 (x5 + 1)))) else (none)) else (none)) else (some true)
def plaitingref5_Items.f (k : Nat) (l0 : List (S26)) (l1 : List (S26)) : Option (Bool) := if (l0.length : Int) = (l1.length : Int) then (plaitingref5_Items.l0 k l0 l1 0) else (some false)
set_option maxHeartbeats 8000000 in
set_option maxRecDepth 100000 in
theorem plaitingref5_Items.calls (k : Nat) (A0 : Option Addr) (c0 : Nat) (l0 : List (S26)) (A1 : Option Addr) (c1 : Nat) (l1 : List (S26)) (r : Bool) (w : World) (hr0 : Kd.C k26 w A0 l0.length l0) (hc0 : l0.length ≤ c0) (hr1 : Kd.C k26 w A1 l1.length l1) (hc1 : l1.length ≤ c1) (h : plaitingref5_Items.f k l0 l1 = some r) :
  Calls Try.prog 62 #[.slice A0 l0.length c0, .slice A1 l1.length c1] w fun e w' => e = .returned (.bool r) ∧ Drawn0 w w' := by
 have hu26 := Try.underlying26
 have HR0 := Aside0.mk hr0
 have HC0 := Aside0.mk hc0
 clear hr0 hc0
 have HR1 := Aside0.mk hr1
 have HC1 := Aside0.mk hc1
 clear hr1 hc1
 have H : (if (l0.length : Int) = (l1.length : Int) then (plaitingref5_Items.l0 k l0 l1 0) else (some false)) = some r := h
 clear h
 by_cases c3 : (l0.length : Int) = (l1.length : Int)
 ·
  rw [if_pos c3] at H
  have c3b0 : ((l0.length : Int) == (l1.length : Int)) = true := beq_iff_eq.mpr c3
  have c3b1 : ((l0.length : Int) != (l1.length : Int)) = false := bne_eq_false_iff_eq.mpr c3
  have c3b2 : (l0.length == l1.length) = true := by first | simpa using c3 | (simp at c3 ⊢; omega)
  clear c3
  have H' := Aside0.mk H
  clear H
  go_enter Try.func62, Try.ntmps62
  go_wp2
  repeat (go_quiet (fail); try go_wp2)
  go_loopg [5] k (fun kq v5 w' => ∃ (x5_1 : Int), v5 = .int .i64 x5_1 ∧ Aside0 (plaitingref5_Items.l0 kq l0 l1 x5_1 = some r) ∧ Aside0 (kq ≤ k) ∧ Drawn0 w w')
  case atStart => exact ⟨(0), (by first | rfl | (simp; done) | (simp [*]; done)), H', ⟨Nat.le_refl _⟩, by repeat (first | exact Drawn0.refl _ | apply Drawn0.step)⟩
  case round =>
   clear H'
   try clear c1
   try clear p2
   try clear c3
   try clear c3b0
   try clear c3b1
   try clear c3b2
   obtain ⟨x5_1, rfl, HA, HK1, ⟨m1, rfl⟩⟩ := hrel
   cases gk with
   | zero => exact absurd HA.out (by simp [plaitingref5_Items.l0])
   | succ k1 =>
    have H := HA.out
    clear HA
    simp only [plaitingref5_Items.l0] at H
    by_cases c4 : x5_1 < (l0.length : Int)
    ·
     rw [if_pos c4] at H
     have c4b0 : decide (x5_1 < (l0.length : Int)) = true := decide_eq_true c4
     clear c4
     by_cases c5 : 0 ≤ x5_1
     ·
      rw [if_pos c5] at H
      have c5b0 : decide (0 ≤ x5_1) = true := decide_eq_true c5
      clear c5
      by_cases c6 : x5_1 < (l1.length : Int)
      ·
       rw [if_pos c6] at H
       have c6b0 : decide (x5_1 < (l1.length : Int)) = true := decide_eq_true c6
       clear c6
       by_cases c7 : (!(((rd_T26 l0 x5_1).f0) == ((rd_T26 l1 x5_1).f0)) || (!(((rd_T26 l0 x5_1).f1) == ((rd_T26 l1 x5_1).f1)))) = true
       ·
        rw [if_pos c7] at H
        have c7b0 : (!(((rd_T26 l0 x5_1).f0) == ((rd_T26 l1 x5_1).f0)) || (!(((rd_T26 l0 x5_1).f1) == ((rd_T26 l1 x5_1).f1)))) = true := c7
        clear c7
        obtain rfl := Option.some.inj H
        have pAg : 0 ≤ (x5_1 : Int) := of_decide_eq_true (by first | (with_reducible assumption) | assumption)
        have qAg : x5_1 < (l0.length : Int) := of_decide_eq_true (by first | (with_reducible assumption) | assumption)
        obtain ⟨adAg, eAg, hxAg_0, hxAg_1⟩ := at_T26 HR0.out x5_1 pAg qAg
        cases eAg
        replace pAg := eq_true pAg
        replace qAg := eq_true qAg
        have pAh : 0 ≤ (x5_1 : Int) := of_decide_eq_true (by first | (with_reducible assumption) | assumption)
        have qAh : x5_1 < (l1.length : Int) := of_decide_eq_true (by first | (with_reducible assumption) | assumption)
        obtain ⟨adAh, eAh, hxAh_0, hxAh_1⟩ := at_T26 HR1.out x5_1 pAh qAh
        cases eAh
        replace pAh := eq_true pAh
        replace qAh := eq_true qAh
        go_wp2
        repeat (go_quiet (fail); try go_wp2)
        go_ret
        exact ⟨by first | rfl | (simp; done) | (simp [*]; done), by repeat (first | exact Drawn0.refl _ | apply Drawn0.step)⟩
       ·
        rw [if_neg c7] at H
        have c7b0 : (!(((rd_T26 l0 x5_1).f0) == ((rd_T26 l1 x5_1).f0)) || (!(((rd_T26 l0 x5_1).f1) == ((rd_T26 l1 x5_1).f1)))) = false := by simpa using c7
        clear c7
        have H' := Aside0.mk H
        clear H
        have pAg : 0 ≤ (x5_1 : Int) := of_decide_eq_true (by first | (with_reducible assumption) | assumption)
        have qAg : x5_1 < (l0.length : Int) := of_decide_eq_true (by first | (with_reducible assumption) | assumption)
        obtain ⟨adAg, eAg, hxAg_0, hxAg_1⟩ := at_T26 HR0.out x5_1 pAg qAg
        cases eAg
        replace pAg := eq_true pAg
        replace qAg := eq_true qAg
        have pAh : 0 ≤ (x5_1 : Int) := of_decide_eq_true (by first | (with_reducible assumption) | assumption)
        have qAh : x5_1 < (l1.length : Int) := of_decide_eq_true (by first | (with_reducible assumption) | assumption)
        obtain ⟨adAh, eAh, hxAh_0, hxAh_1⟩ := at_T26 HR1.out x5_1 pAh qAh
        cases eAh
        replace pAh := eq_true pAh
        replace qAh := eq_true qAh
        go_wp2
        repeat (go_quiet (fail); try go_wp2)
        go_roundg k1
        case measure => have := HK1.out; omega
        case rel => exact ⟨(wrap64 (x5_1 + 1)), (by first | rfl | (simp; done) | (simp [*]; done)), H', ⟨by have := HK1.out; omega⟩, by repeat (first | exact Drawn0.refl _ | apply Drawn0.step)⟩
      ·
       rw [if_neg c6] at H
       exact absurd H (by simp)
     ·
      rw [if_neg c5] at H
      exact absurd H (by simp)
    ·
     rw [if_neg c4] at H
     have c4b0 : decide (x5_1 < (l0.length : Int)) = false := decide_eq_false c4
     clear c4
     obtain rfl := Option.some.inj H
     go_wp2
     repeat (go_quiet (fail); try go_wp2)
     go_ret
     exact ⟨by first | rfl | (simp; done) | (simp [*]; done), by repeat (first | exact Drawn0.refl _ | apply Drawn0.step)⟩
 ·
  rw [if_neg c3] at H
  have c3b0 : ((l0.length : Int) == (l1.length : Int)) = false := beq_eq_false_iff_ne.mpr c3
  have c3b1 : ((l0.length : Int) != (l1.length : Int)) = true := bne_iff_ne.mpr c3
  have c3b2 : (l0.length == l1.length) = false := by first | simpa using c3 | (simp at c3 ⊢; omega)
  obtain rfl := Option.some.inj H
  go_enter Try.func62, Try.ntmps62
  go_wp2
  repeat (go_quiet (fail); try go_wp2)
  go_ret
  exact ⟨by first | rfl | (simp; done) | (simp [*]; done), by repeat (first | exact Drawn0.refl _ | apply Drawn0.step)⟩
def plaitingref5_Same.f (k : Nat) (a0_0 : Int) (a0_1 : Int) (a0_2 : Int) (a0_3 : Int) (a0_4 : Int) (l0_5 : List (S26)) (a1_0 : Int) (a1_1 : Int) (a1_2 : Int) (a1_3 : Int) (a1_4 : Int) (l1_5 : List (S26)) : Option (Bool) := if a0_0 = a1_0 then (if a0_1 = a1_1 then (if a0_2 = a1_2 then (if (!(a0_3 == a1_3) || (!(a0_4 == a1_4))) = true then (some false) else ((plaitingref5_Items.f k l0_5 l1_5).bind fun tAr => (some tAr))) else (some false)) else (some false)) else (some false)
set_option maxHeartbeats 8000000 in
set_option maxRecDepth 100000 in
theorem plaitingref5_Same.calls (k : Nat) (a0_0 : Int) (a0_1 : Int) (a0_2 : Int) (a0_3 : Int) (a0_4 : Int) (A0_5 : Option Addr) (c0_5 : Nat) (l0_5 : List (S26)) (a1_0 : Int) (a1_1 : Int) (a1_2 : Int) (a1_3 : Int) (a1_4 : Int) (A1_5 : Option Addr) (c1_5 : Nat) (l1_5 : List (S26)) (r : Bool) (w : World) (hr0_5 : Kd.C k26 w A0_5 l0_5.length l0_5) (hc0_5 : l0_5.length ≤ c0_5) (hr1_5 : Kd.C k26 w A1_5 l1_5.length l1_5) (hc1_5 : l1_5.length ≤ c1_5) (h : plaitingref5_Same.f k a0_0 a0_1 a0_2 a0_3 a0_4 l0_5 a1_0 a1_1 a1_2 a1_3 a1_4 l1_5 = some r) :
  Calls Try.prog 30 #[.agg #[.int .i64 a0_0, .int .i64 a0_1, .int .i64 a0_2, .int .i64 a0_3, .int .i64 a0_4, .slice A0_5 l0_5.length c0_5], .agg #[.int .i64 a1_0, .int .i64 a1_1, .int .i64 a1_2, .int .i64 a1_3, .int .i64 a1_4, .slice A1_5 l1_5.length c1_5]] w fun e w' => e = .returned (.bool r) ∧ Below w.heap.size w w' := by
 have hu29 := Try.underlying29
 have hu26 := Try.underlying26
 have HR0_5 := Aside0.mk hr0_5
 have HC0_5 := Aside0.mk hc0_5
 clear hr0_5 hc0_5
 have HR1_5 := Aside0.mk hr1_5
 have HC1_5 := Aside0.mk hc1_5
 clear hr1_5 hc1_5
 have HB := Aside0.mk (Below.refl w.heap.size w)
 have H : (if a0_0 = a1_0 then (if a0_1 = a1_1 then (if a0_2 = a1_2 then (if (!(a0_3 == a1_3) || (!(a0_4 == a1_4))) = true then (some false) else ((plaitingref5_Items.f k l0_5 l1_5).bind fun tAr => (some tAr))) else (some false)) else (some false)) else (some false)) = some r := h
 clear h
 by_cases c3 : a0_0 = a1_0
 ·
  rw [if_pos c3] at H
  have c3b0 : (a0_0 == a1_0) = true := beq_iff_eq.mpr c3
  have c3b1 : (a0_0 != a1_0) = false := bne_eq_false_iff_eq.mpr c3
  clear c3
  by_cases c4 : a0_1 = a1_1
  ·
   rw [if_pos c4] at H
   have c4b0 : (a0_1 == a1_1) = true := beq_iff_eq.mpr c4
   have c4b1 : (a0_1 != a1_1) = false := bne_eq_false_iff_eq.mpr c4
   clear c4
   by_cases c5 : a0_2 = a1_2
   ·
    rw [if_pos c5] at H
    have c5b0 : (a0_2 == a1_2) = true := beq_iff_eq.mpr c5
    have c5b1 : (a0_2 != a1_2) = false := bne_eq_false_iff_eq.mpr c5
    clear c5
    by_cases c6 : (!(a0_3 == a1_3) || (!(a0_4 == a1_4))) = true
    ·
     rw [if_pos c6] at H
     have c6b0 : (!(a0_3 == a1_3) || (!(a0_4 == a1_4))) = true := c6
     clear c6
     obtain rfl := Option.some.inj H
     go_enter Try.func30, Try.ntmps30
     go_wp2_with (first | ((with_reducible refine gate_dst (N := 2) rfl ?_); refine be_ 2 #[.int .i64 a0_0, .int .i64 a0_1, .int .i64 a0_2, .int .i64 a0_3, .int .i64 a0_4, .slice A0_5 l0_5.length c0_5] 29 ?_; intro gbAa hg w7 hbox hb; have n0_ := bs_ HB hb; have n1_ := Aside0.mk (hbox); have n2_ := Aside0.mk ((by rw [hg]; exact (below_size (pH_ HB.out)) : w.heap.size ≤ gbAa)); have n3_ := Aside0.mk ((by rw [hg]; exact (below_size (pH_ HB.out)) : w.heap.size ≤ gbAa)); clear HB; have HB := n0_; have BKAa := n1_; have GWAa := n2_; have GEAa := n3_; clear n0_ n1_ n2_ n3_; clear hb hbox hg) | ((with_reducible refine gate_dst (N := 3) rfl ?_); refine be_ 3 #[.int .i64 a1_0, .int .i64 a1_1, .int .i64 a1_2, .int .i64 a1_3, .int .i64 a1_4, .slice A1_5 l1_5.length c1_5] 29 ?_; intro gbAb hg w8 hbox hb; have n0_ := Aside0.mk (blk_below (g := gbAa) (o := .cells #[.int .i64 a0_0, .int .i64 a0_1, .int .i64 a0_2, .int .i64 a0_3, .int .i64 a0_4, .slice A0_5 l0_5.length c0_5] 29 (0, 0)) (pB_ BKAa.out) hb); have n1_ := bs_ HB hb; have n2_ := Aside0.mk (hbox); have n3_ := Aside0.mk ((by rw [hg]; exact (below_size (pH_ HB.out)) : w.heap.size ≤ gbAb)); have n4_ := Aside0.mk ((by rw [hg]; exact (below_size (pH_ HB.out)) : w.heap.size ≤ gbAb)); have n5_ := Aside0.mk ((by rw [hg]; exact Nat.ne_of_lt (blk_lt (g := gbAa) (o := .cells #[.int .i64 a0_0, .int .i64 a0_1, .int .i64 a0_2, .int .i64 a0_3, .int .i64 a0_4, .slice A0_5 l0_5.length c0_5] 29 (0, 0)) (pB_ BKAa.out)) : gbAa ≠ gbAb)); have n6_ := Aside0.mk ((by rw [hg]; exact Nat.ne_of_gt (blk_lt (g := gbAa) (o := .cells #[.int .i64 a0_0, .int .i64 a0_1, .int .i64 a0_2, .int .i64 a0_3, .int .i64 a0_4, .slice A0_5 l0_5.length c0_5] 29 (0, 0)) (pB_ BKAa.out)) : gbAb ≠ gbAa)); clear BKAa; clear HB; have BKAa := n0_; have HB := n1_; have BKAb := n2_; have GWAb := n3_; have GEAb := n4_; have NBAa_Ab := n5_; have NBAb_Aa := n6_; clear n0_ n1_ n2_ n3_ n4_ n5_ n6_; clear hb hbox hg; have hnb9 := NBAa_Ab.out; have hnc9 := NBAb_Aa.out; obtain ⟨hcz10_0, hcz10_1, hcz10_2, hcz10_3, hcz10_4, hcz10_5⟩ := c6_ BKAa; obtain ⟨hfz10_0, hfz10_1, hfz10_2, hfz10_3, hfz10_4, hfz10_5⟩ := f6_ BKAa; obtain ⟨hcz11_0, hcz11_1, hcz11_2, hcz11_3, hcz11_4, hcz11_5⟩ := c6_ BKAb; obtain ⟨hfz11_0, hfz11_1, hfz11_2, hfz11_3, hfz11_4, hfz11_5⟩ := f6_ BKAb))
     go_ret
     exact ⟨by first | rfl | (simp [errW_none, errW_some] <;> rfl) | (simp [*, errW_none, errW_some] <;> rfl), pH_ HB.out⟩
    ·
     rw [if_neg c6] at H
     have c6b0 : (!(a0_3 == a1_3) || (!(a0_4 == a1_4))) = false := by simpa using c6
     clear c6
     replace H := Option.bind_eq_some_iff.mp H
     obtain ⟨tAr, A120, H⟩ := H
     try dsimp only at H
     have A12 := Aside0.mk A120
     clear A120
     obtain rfl := Option.some.inj H
     go_enter Try.func30, Try.ntmps30
     go_wp2_with (first | ((with_reducible refine gate_dst (N := 2) rfl ?_); refine be_ 2 #[.int .i64 a0_0, .int .i64 a0_1, .int .i64 a0_2, .int .i64 a0_3, .int .i64 a0_4, .slice A0_5 l0_5.length c0_5] 29 ?_; intro gbAa hg w13 hbox hb; have n0_ := bs_ HB hb; have n1_ := Aside0.mk (hbox); have n2_ := Aside0.mk ((by rw [hg]; exact (below_size (pH_ HB.out)) : w.heap.size ≤ gbAa)); have n3_ := Aside0.mk ((by rw [hg]; exact (below_size (pH_ HB.out)) : w.heap.size ≤ gbAa)); clear HB; have HB := n0_; have BKAa := n1_; have GWAa := n2_; have GEAa := n3_; clear n0_ n1_ n2_ n3_; clear hb hbox hg) | ((with_reducible refine gate_dst (N := 3) rfl ?_); refine be_ 3 #[.int .i64 a1_0, .int .i64 a1_1, .int .i64 a1_2, .int .i64 a1_3, .int .i64 a1_4, .slice A1_5 l1_5.length c1_5] 29 ?_; intro gbAb hg w14 hbox hb; have n0_ := Aside0.mk (blk_below (g := gbAa) (o := .cells #[.int .i64 a0_0, .int .i64 a0_1, .int .i64 a0_2, .int .i64 a0_3, .int .i64 a0_4, .slice A0_5 l0_5.length c0_5] 29 (0, 0)) (pB_ BKAa.out) hb); have n1_ := bs_ HB hb; have n2_ := Aside0.mk (hbox); have n3_ := Aside0.mk ((by rw [hg]; exact (below_size (pH_ HB.out)) : w.heap.size ≤ gbAb)); have n4_ := Aside0.mk ((by rw [hg]; exact (below_size (pH_ HB.out)) : w.heap.size ≤ gbAb)); have n5_ := Aside0.mk ((by rw [hg]; exact Nat.ne_of_lt (blk_lt (g := gbAa) (o := .cells #[.int .i64 a0_0, .int .i64 a0_1, .int .i64 a0_2, .int .i64 a0_3, .int .i64 a0_4, .slice A0_5 l0_5.length c0_5] 29 (0, 0)) (pB_ BKAa.out)) : gbAa ≠ gbAb)); have n6_ := Aside0.mk ((by rw [hg]; exact Nat.ne_of_gt (blk_lt (g := gbAa) (o := .cells #[.int .i64 a0_0, .int .i64 a0_1, .int .i64 a0_2, .int .i64 a0_3, .int .i64 a0_4, .slice A0_5 l0_5.length c0_5] 29 (0, 0)) (pB_ BKAa.out)) : gbAb ≠ gbAa)); clear BKAa; clear HB; have BKAa := n0_; have HB := n1_; have BKAb := n2_; have GWAb := n3_; have GEAb := n4_; have NBAa_Ab := n5_; have NBAb_Aa := n6_; clear n0_ n1_ n2_ n3_ n4_ n5_ n6_; clear hb hbox hg; have hnb15 := NBAa_Ab.out; have hnc15 := NBAb_Aa.out; obtain ⟨hcz16_0, hcz16_1, hcz16_2, hcz16_3, hcz16_4, hcz16_5⟩ := c6_ BKAa; obtain ⟨hfz16_0, hfz16_1, hfz16_2, hfz16_3, hfz16_4, hfz16_5⟩ := f6_ BKAa; obtain ⟨hcz17_0, hcz17_1, hcz17_2, hcz17_3, hcz17_4, hcz17_5⟩ := c6_ BKAb; obtain ⟨hfz17_0, hfz17_1, hfz17_2, hfz17_3, hfz17_4, hfz17_5⟩ := f6_ BKAb) | ((with_reducible refine gate_callee (f := 62) rfl ?_); refine gL_ 35 Try.func62 #[.slice A0_5 l0_5.length c0_5, .slice A1_5 l1_5.length c1_5] ?_; (with_reducible refine (plaitingref5_Items.calls k _ _ l0_5 _ _ l1_5 tAr _ ?side1 ?side2 ?side3 ?side4 A12.out).mono ?_); (case side1 => exact cC_ (Kd.C_below HR0_5.out HB.out)); (case side2 => exact HC0_5.out); (case side3 => exact cC_ (Kd.C_below HR1_5.out HB.out)); (case side4 => exact HC1_5.out); rintro e w' ⟨rfl, ⟨nd, rfl⟩⟩; refine ⟨_, rfl, ?_⟩))
     go_ret
     exact ⟨by first | rfl | (simp [errW_none, errW_some] <;> rfl) | (simp [*, errW_none, errW_some] <;> rfl), pH_ HB.out⟩
   ·
    rw [if_neg c5] at H
    have c5b0 : (a0_2 == a1_2) = false := beq_eq_false_iff_ne.mpr c5
    have c5b1 : (a0_2 != a1_2) = true := bne_iff_ne.mpr c5
    obtain rfl := Option.some.inj H
    go_enter Try.func30, Try.ntmps30
    go_wp2_with (first | ((with_reducible refine gate_dst (N := 2) rfl ?_); refine be_ 2 #[.int .i64 a0_0, .int .i64 a0_1, .int .i64 a0_2, .int .i64 a0_3, .int .i64 a0_4, .slice A0_5 l0_5.length c0_5] 29 ?_; intro gbAa hg w18 hbox hb; have n0_ := bs_ HB hb; have n1_ := Aside0.mk (hbox); have n2_ := Aside0.mk ((by rw [hg]; exact (below_size (pH_ HB.out)) : w.heap.size ≤ gbAa)); have n3_ := Aside0.mk ((by rw [hg]; exact (below_size (pH_ HB.out)) : w.heap.size ≤ gbAa)); clear HB; have HB := n0_; have BKAa := n1_; have GWAa := n2_; have GEAa := n3_; clear n0_ n1_ n2_ n3_; clear hb hbox hg) | ((with_reducible refine gate_dst (N := 3) rfl ?_); refine be_ 3 #[.int .i64 a1_0, .int .i64 a1_1, .int .i64 a1_2, .int .i64 a1_3, .int .i64 a1_4, .slice A1_5 l1_5.length c1_5] 29 ?_; intro gbAb hg w19 hbox hb; have n0_ := Aside0.mk (blk_below (g := gbAa) (o := .cells #[.int .i64 a0_0, .int .i64 a0_1, .int .i64 a0_2, .int .i64 a0_3, .int .i64 a0_4, .slice A0_5 l0_5.length c0_5] 29 (0, 0)) (pB_ BKAa.out) hb); have n1_ := bs_ HB hb; have n2_ := Aside0.mk (hbox); have n3_ := Aside0.mk ((by rw [hg]; exact (below_size (pH_ HB.out)) : w.heap.size ≤ gbAb)); have n4_ := Aside0.mk ((by rw [hg]; exact (below_size (pH_ HB.out)) : w.heap.size ≤ gbAb)); have n5_ := Aside0.mk ((by rw [hg]; exact Nat.ne_of_lt (blk_lt (g := gbAa) (o := .cells #[.int .i64 a0_0, .int .i64 a0_1, .int .i64 a0_2, .int .i64 a0_3, .int .i64 a0_4, .slice A0_5 l0_5.length c0_5] 29 (0, 0)) (pB_ BKAa.out)) : gbAa ≠ gbAb)); have n6_ := Aside0.mk ((by rw [hg]; exact Nat.ne_of_gt (blk_lt (g := gbAa) (o := .cells #[.int .i64 a0_0, .int .i64 a0_1, .int .i64 a0_2, .int .i64 a0_3, .int .i64 a0_4, .slice A0_5 l0_5.length c0_5] 29 (0, 0)) (pB_ BKAa.out)) : gbAb ≠ gbAa)); clear BKAa; clear HB; have BKAa := n0_; have HB := n1_; have BKAb := n2_; have GWAb := n3_; have GEAb := n4_; have NBAa_Ab := n5_; have NBAb_Aa := n6_; clear n0_ n1_ n2_ n3_ n4_ n5_ n6_; clear hb hbox hg; have hnb20 := NBAa_Ab.out; have hnc20 := NBAb_Aa.out; obtain ⟨hcz21_0, hcz21_1, hcz21_2, hcz21_3, hcz21_4, hcz21_5⟩ := c6_ BKAa; obtain ⟨hfz21_0, hfz21_1, hfz21_2, hfz21_3, hfz21_4, hfz21_5⟩ := f6_ BKAa; obtain ⟨hcz22_0, hcz22_1, hcz22_2, hcz22_3, hcz22_4, hcz22_5⟩ := c6_ BKAb; obtain ⟨hfz22_0, hfz22_1, hfz22_2, hfz22_3, hfz22_4, hfz22_5⟩ := f6_ BKAb))
    go_ret
    exact ⟨by first | rfl | (simp [errW_none, errW_some] <;> rfl) | (simp [*, errW_none, errW_some] <;> rfl), pH_ HB.out⟩
  ·
   rw [if_neg c4] at H
   have c4b0 : (a0_1 == a1_1) = false := beq_eq_false_iff_ne.mpr c4
   have c4b1 : (a0_1 != a1_1) = true := bne_iff_ne.mpr c4
   obtain rfl := Option.some.inj H
   go_enter Try.func30, Try.ntmps30
   go_wp2_with (first | ((with_reducible refine gate_dst (N := 2) rfl ?_); refine be_ 2 #[.int .i64 a0_0, .int .i64 a0_1, .int .i64 a0_2, .int .i64 a0_3, .int .i64 a0_4, .slice A0_5 l0_5.length c0_5] 29 ?_; intro gbAa hg w23 hbox hb; have n0_ := bs_ HB hb; have n1_ := Aside0.mk (hbox); have n2_ := Aside0.mk ((by rw [hg]; exact (below_size (pH_ HB.out)) : w.heap.size ≤ gbAa)); have n3_ := Aside0.mk ((by rw [hg]; exact (below_size (pH_ HB.out)) : w.heap.size ≤ gbAa)); clear HB; have HB := n0_; have BKAa := n1_; have GWAa := n2_; have GEAa := n3_; clear n0_ n1_ n2_ n3_; clear hb hbox hg) | ((with_reducible refine gate_dst (N := 3) rfl ?_); refine be_ 3 #[.int .i64 a1_0, .int .i64 a1_1, .int .i64 a1_2, .int .i64 a1_3, .int .i64 a1_4, .slice A1_5 l1_5.length c1_5] 29 ?_; intro gbAb hg w24 hbox hb; have n0_ := Aside0.mk (blk_below (g := gbAa) (o := .cells #[.int .i64 a0_0, .int .i64 a0_1, .int .i64 a0_2, .int .i64 a0_3, .int .i64 a0_4, .slice A0_5 l0_5.length c0_5] 29 (0, 0)) (pB_ BKAa.out) hb); have n1_ := bs_ HB hb; have n2_ := Aside0.mk (hbox); have n3_ := Aside0.mk ((by rw [hg]; exact (below_size (pH_ HB.out)) : w.heap.size ≤ gbAb)); have n4_ := Aside0.mk ((by rw [hg]; exact (below_size (pH_ HB.out)) : w.heap.size ≤ gbAb)); have n5_ := Aside0.mk ((by rw [hg]; exact Nat.ne_of_lt (blk_lt (g := gbAa) (o := .cells #[.int .i64 a0_0, .int .i64 a0_1, .int .i64 a0_2, .int .i64 a0_3, .int .i64 a0_4, .slice A0_5 l0_5.length c0_5] 29 (0, 0)) (pB_ BKAa.out)) : gbAa ≠ gbAb)); have n6_ := Aside0.mk ((by rw [hg]; exact Nat.ne_of_gt (blk_lt (g := gbAa) (o := .cells #[.int .i64 a0_0, .int .i64 a0_1, .int .i64 a0_2, .int .i64 a0_3, .int .i64 a0_4, .slice A0_5 l0_5.length c0_5] 29 (0, 0)) (pB_ BKAa.out)) : gbAb ≠ gbAa)); clear BKAa; clear HB; have BKAa := n0_; have HB := n1_; have BKAb := n2_; have GWAb := n3_; have GEAb := n4_; have NBAa_Ab := n5_; have NBAb_Aa := n6_; clear n0_ n1_ n2_ n3_ n4_ n5_ n6_; clear hb hbox hg; have hnb25 := NBAa_Ab.out; have hnc25 := NBAb_Aa.out; obtain ⟨hcz26_0, hcz26_1, hcz26_2, hcz26_3, hcz26_4, hcz26_5⟩ := c6_ BKAa; obtain ⟨hfz26_0, hfz26_1, hfz26_2, hfz26_3, hfz26_4, hfz26_5⟩ := f6_ BKAa; obtain ⟨hcz27_0, hcz27_1, hcz27_2, hcz27_3, hcz27_4, hcz27_5⟩ := c6_ BKAb; obtain ⟨hfz27_0, hfz27_1, hfz27_2, hfz27_3, hfz27_4, hfz27_5⟩ := f6_ BKAb))
   go_ret
   exact ⟨by first | rfl | (simp [errW_none, errW_some] <;> rfl) | (simp [*, errW_none, errW_some] <;> rfl), pH_ HB.out⟩
 ·
  rw [if_neg c3] at H
  have c3b0 : (a0_0 == a1_0) = false := beq_eq_false_iff_ne.mpr c3
  have c3b1 : (a0_0 != a1_0) = true := bne_iff_ne.mpr c3
  obtain rfl := Option.some.inj H
  go_enter Try.func30, Try.ntmps30
  go_wp2_with (first | ((with_reducible refine gate_dst (N := 2) rfl ?_); refine be_ 2 #[.int .i64 a0_0, .int .i64 a0_1, .int .i64 a0_2, .int .i64 a0_3, .int .i64 a0_4, .slice A0_5 l0_5.length c0_5] 29 ?_; intro gbAa hg w28 hbox hb; have n0_ := bs_ HB hb; have n1_ := Aside0.mk (hbox); have n2_ := Aside0.mk ((by rw [hg]; exact (below_size (pH_ HB.out)) : w.heap.size ≤ gbAa)); have n3_ := Aside0.mk ((by rw [hg]; exact (below_size (pH_ HB.out)) : w.heap.size ≤ gbAa)); clear HB; have HB := n0_; have BKAa := n1_; have GWAa := n2_; have GEAa := n3_; clear n0_ n1_ n2_ n3_; clear hb hbox hg) | ((with_reducible refine gate_dst (N := 3) rfl ?_); refine be_ 3 #[.int .i64 a1_0, .int .i64 a1_1, .int .i64 a1_2, .int .i64 a1_3, .int .i64 a1_4, .slice A1_5 l1_5.length c1_5] 29 ?_; intro gbAb hg w29 hbox hb; have n0_ := Aside0.mk (blk_below (g := gbAa) (o := .cells #[.int .i64 a0_0, .int .i64 a0_1, .int .i64 a0_2, .int .i64 a0_3, .int .i64 a0_4, .slice A0_5 l0_5.length c0_5] 29 (0, 0)) (pB_ BKAa.out) hb); have n1_ := bs_ HB hb; have n2_ := Aside0.mk (hbox); have n3_ := Aside0.mk ((by rw [hg]; exact (below_size (pH_ HB.out)) : w.heap.size ≤ gbAb)); have n4_ := Aside0.mk ((by rw [hg]; exact (below_size (pH_ HB.out)) : w.heap.size ≤ gbAb)); have n5_ := Aside0.mk ((by rw [hg]; exact Nat.ne_of_lt (blk_lt (g := gbAa) (o := .cells #[.int .i64 a0_0, .int .i64 a0_1, .int .i64 a0_2, .int .i64 a0_3, .int .i64 a0_4, .slice A0_5 l0_5.length c0_5] 29 (0, 0)) (pB_ BKAa.out)) : gbAa ≠ gbAb)); have n6_ := Aside0.mk ((by rw [hg]; exact Nat.ne_of_gt (blk_lt (g := gbAa) (o := .cells #[.int .i64 a0_0, .int .i64 a0_1, .int .i64 a0_2, .int .i64 a0_3, .int .i64 a0_4, .slice A0_5 l0_5.length c0_5] 29 (0, 0)) (pB_ BKAa.out)) : gbAb ≠ gbAa)); clear BKAa; clear HB; have BKAa := n0_; have HB := n1_; have BKAb := n2_; have GWAb := n3_; have GEAb := n4_; have NBAa_Ab := n5_; have NBAb_Aa := n6_; clear n0_ n1_ n2_ n3_ n4_ n5_ n6_; clear hb hbox hg; have hnb30 := NBAa_Ab.out; have hnc30 := NBAb_Aa.out; obtain ⟨hcz31_0, hcz31_1, hcz31_2, hcz31_3, hcz31_4, hcz31_5⟩ := c6_ BKAa; obtain ⟨hfz31_0, hfz31_1, hfz31_2, hfz31_3, hfz31_4, hfz31_5⟩ := f6_ BKAa; obtain ⟨hcz32_0, hcz32_1, hcz32_2, hcz32_3, hcz32_4, hcz32_5⟩ := c6_ BKAb; obtain ⟨hfz32_0, hfz32_1, hfz32_2, hfz32_3, hfz32_4, hfz32_5⟩ := f6_ BKAb))
  go_ret
  exact ⟨by first | rfl | (simp [errW_none, errW_some] <;> rfl) | (simp [*, errW_none, errW_some] <;> rfl), pH_ HB.out⟩
def plaitingref5_bits.f (k : Nat) (a0_0 : Int) (a0_1 : Int) : Option (ByteArray) := (plaitingref1_Bits.f k a0_0 2).bind fun tAm => ((plaitingref1_Bits.f k a0_1 8).bind fun tAn => (if tAm.size + tAn.size ≤ 9223372036854775807 then (some (tAm ++ tAn)) else (none)))
set_option maxHeartbeats 8000000 in
set_option maxRecDepth 100000 in
theorem plaitingref5_bits.calls (k : Nat) (a0_0 : Int) (a0_1 : Int) (r : ByteArray) (w : World) (h : plaitingref5_bits.f k a0_0 a0_1 = some r) :
  Calls Try.prog 63 #[.agg #[.int .i64 a0_0, .int .i64 a0_1]] w fun e w' => e = .returned (.string r) ∧ Below w.heap.size w w' := by
 have hu26 := Try.underlying26
 have HB := Aside0.mk (Below.refl w.heap.size w)
 have H : ((plaitingref1_Bits.f k a0_0 2).bind fun tAm => ((plaitingref1_Bits.f k a0_1 8).bind fun tAn => (if tAm.size + tAn.size ≤ 9223372036854775807 then (some (tAm ++ tAn)) else (none)))) = some r := h
 clear h
 replace H := Option.bind_eq_some_iff.mp H
 obtain ⟨tAm, A20, H⟩ := H
 try dsimp only at H
 have A2 := Aside0.mk A20
 clear A20
 replace H := Option.bind_eq_some_iff.mp H
 obtain ⟨tAn, A30, H⟩ := H
 try dsimp only at H
 have A3 := Aside0.mk A30
 clear A30
 by_cases c4 : tAm.size + tAn.size ≤ 9223372036854775807
 ·
  rw [if_pos c4] at H
  have c4b0 := eq_true c4
  have c4b1 : decide (tAm.size + tAn.size ≤ 9223372036854775807) = true := decide_eq_true c4
  try have c4b2 : (9223372036854775807 < tAm.size + tAn.size) = False := eq_false (Nat.not_lt.2 c4)
  obtain rfl := Option.some.inj H
  go_enter Try.func63, Try.ntmps63
  go_wp2_with (first | ((with_reducible refine gate_dst (N := 1) rfl ?_); refine be_ 1 #[.int .i64 a0_0, .int .i64 a0_1] 26 ?_; intro gbAf hg w5 hbox hb; have n0_ := bs_ HB hb; have n1_ := Aside0.mk (hbox); have n2_ := Aside0.mk ((by rw [hg]; exact (below_size (pH_ HB.out)) : w.heap.size ≤ gbAf)); have n3_ := Aside0.mk ((by rw [hg]; exact (below_size (pH_ HB.out)) : w.heap.size ≤ gbAf)); clear HB; have HB := n0_; have BKAf := n1_; have GWAf := n2_; have GEAf := n3_; clear n0_ n1_ n2_ n3_; clear hb hbox hg; have hcz6_0 : w5.cell? ⟨gbAf, 0, none⟩ = some (.int .i64 a0_0) := bc_ BKAf 0; have hcz6_1 : w5.cell? ⟨gbAf, 1, none⟩ = some (.int .i64 a0_1) := bc_ BKAf 1; have hfz6_0 := blk_frozen BKAf.out 0; have hfz6_1 := blk_frozen BKAf.out 1) | (go_at_call 28; (with_reducible refine (plaitingref1_Bits.calls k a0_0 2 tAm _ A2.out).mono ?_); rintro e w' ⟨rfl, ⟨nd, rfl⟩⟩; (try first | exact ⟨rfl, _, World.drewN_drewN _ _ _⟩ | exact ⟨rfl, _, Eq.trans (World.drewN_drewN _ _ _) (congrArg (World.drewN _) (Nat.add_assoc _ _ _))⟩)) | (go_at_call 28; (with_reducible refine (plaitingref1_Bits.calls k a0_1 8 tAn _ A3.out).mono ?_); rintro e w' ⟨rfl, ⟨nd, rfl⟩⟩; (try first | exact ⟨rfl, _, World.drewN_drewN _ _ _⟩ | exact ⟨rfl, _, Eq.trans (World.drewN_drewN _ _ _) (congrArg (World.drewN _) (Nat.add_assoc _ _ _))⟩)))
  repeat (go_quiet (first | ((with_reducible refine gate_dst (N := 1) rfl ?_); refine be_ 1 #[.int .i64 a0_0, .int .i64 a0_1] 26 ?_; intro gbAf hg w5 hbox hb; have n0_ := bs_ HB hb; have n1_ := Aside0.mk (hbox); have n2_ := Aside0.mk ((by rw [hg]; exact (below_size (pH_ HB.out)) : w.heap.size ≤ gbAf)); have n3_ := Aside0.mk ((by rw [hg]; exact (below_size (pH_ HB.out)) : w.heap.size ≤ gbAf)); clear HB; have HB := n0_; have BKAf := n1_; have GWAf := n2_; have GEAf := n3_; clear n0_ n1_ n2_ n3_; clear hb hbox hg; have hcz6_0 : w5.cell? ⟨gbAf, 0, none⟩ = some (.int .i64 a0_0) := bc_ BKAf 0; have hcz6_1 : w5.cell? ⟨gbAf, 1, none⟩ = some (.int .i64 a0_1) := bc_ BKAf 1; have hfz6_0 := blk_frozen BKAf.out 0; have hfz6_1 := blk_frozen BKAf.out 1) | (go_at_call 28; (with_reducible refine (plaitingref1_Bits.calls k a0_0 2 tAm _ A2.out).mono ?_); rintro e w' ⟨rfl, ⟨nd, rfl⟩⟩; (try first | exact ⟨rfl, _, World.drewN_drewN _ _ _⟩ | exact ⟨rfl, _, Eq.trans (World.drewN_drewN _ _ _) (congrArg (World.drewN _) (Nat.add_assoc _ _ _))⟩)) | (go_at_call 28; (with_reducible refine (plaitingref1_Bits.calls k a0_1 8 tAn _ A3.out).mono ?_); rintro e w' ⟨rfl, ⟨nd, rfl⟩⟩; (try first | exact ⟨rfl, _, World.drewN_drewN _ _ _⟩ | exact ⟨rfl, _, Eq.trans (World.drewN_drewN _ _ _) (congrArg (World.drewN _) (Nat.add_assoc _ _ _))⟩))); try go_wp2_with (first | ((with_reducible refine gate_dst (N := 1) rfl ?_); refine be_ 1 #[.int .i64 a0_0, .int .i64 a0_1] 26 ?_; intro gbAf hg w5 hbox hb; have n0_ := bs_ HB hb; have n1_ := Aside0.mk (hbox); have n2_ := Aside0.mk ((by rw [hg]; exact (below_size (pH_ HB.out)) : w.heap.size ≤ gbAf)); have n3_ := Aside0.mk ((by rw [hg]; exact (below_size (pH_ HB.out)) : w.heap.size ≤ gbAf)); clear HB; have HB := n0_; have BKAf := n1_; have GWAf := n2_; have GEAf := n3_; clear n0_ n1_ n2_ n3_; clear hb hbox hg; have hcz6_0 : w5.cell? ⟨gbAf, 0, none⟩ = some (.int .i64 a0_0) := bc_ BKAf 0; have hcz6_1 : w5.cell? ⟨gbAf, 1, none⟩ = some (.int .i64 a0_1) := bc_ BKAf 1; have hfz6_0 := blk_frozen BKAf.out 0; have hfz6_1 := blk_frozen BKAf.out 1) | (go_at_call 28; (with_reducible refine (plaitingref1_Bits.calls k a0_0 2 tAm _ A2.out).mono ?_); rintro e w' ⟨rfl, ⟨nd, rfl⟩⟩; (try first | exact ⟨rfl, _, World.drewN_drewN _ _ _⟩ | exact ⟨rfl, _, Eq.trans (World.drewN_drewN _ _ _) (congrArg (World.drewN _) (Nat.add_assoc _ _ _))⟩)) | (go_at_call 28; (with_reducible refine (plaitingref1_Bits.calls k a0_1 8 tAn _ A3.out).mono ?_); rintro e w' ⟨rfl, ⟨nd, rfl⟩⟩; (try first | exact ⟨rfl, _, World.drewN_drewN _ _ _⟩ | exact ⟨rfl, _, Eq.trans (World.drewN_drewN _ _ _) (congrArg (World.drewN _) (Nat.add_assoc _ _ _))⟩))))
  go_ret
  exact ⟨by first | rfl | (simp [errW_none, errW_some] <;> rfl) | (simp [*, errW_none, errW_some] <;> rfl), pH_ HB.out⟩
 ·
  rw [if_neg c4] at H
  exact absurd H (by simp)
def plaitingref5_Text.l0 : Nat → ByteArray → Int → Int → Int → Int → Int → Int → List (S26) → Option (ByteArray)
 | 0, _, _, _, _, _, _, _, _ => none
 | k + 1, x5, x6, xAe000, xAe001, xAe002, xAe003, xAe004, xAe005 => if x6 < (xAe005.length : Int) then (if 0 ≤ x6 then ((plaitingref5_bits.f k ((rd_T26 xAe005 x6).f0) ((rd_T26 xAe005 x6).f1)).bind fun tAq => (if x5.size + tAq.size ≤ 9223372036854775807 then (plaitingref5_Text.l0 k (x5 ++ tAq) (wrap64 (x6 + 1)) xAe000 xAe001 xAe002 xAe003 xAe004 xAe005) else (none))) else (none)) else ((plaitingref2_Wrap.f k x5).bind fun tAs => (some tAs))
def plaitingref5_Text.f (k : Nat) (a0_0 : Int) (a0_1 : Int) (a0_2 : Int) (a0_3 : Int) (a0_4 : Int) (l0_5 : List Int) (a1_0 : Int) (a1_1 : Int) (a1_2 : Int) (a1_3 : Int) (a1_4 : Int) (l1_5 : List (S26)) : Option (ByteArray) := (plaitingref1_Bits.f k a1_0 2).bind fun tAe => ((plaitingref1_Bits.f k a1_1 16).bind fun tAi => (if tAe.size + tAi.size ≤ 9223372036854775807 then ((plaitingref1_Bits.f k a1_2 6).bind fun tAk => (if (tAe ++ tAi).size + tAk.size ≤ 9223372036854775807 then ((plaitingref5_bits.f k a1_3 a1_4).bind fun tAp => (if ((tAe ++ tAi) ++ tAk).size + tAp.size ≤ 9223372036854775807 then (plaitingref5_Text.l0 k (((tAe ++ tAi) ++ tAk) ++ tAp) 0 a1_0 a1_1 a1_2 a1_3 a1_4 l1_5) else (none))) else (none))) else (none)))
def plaitingref5_Text.T1 : Bool × List (List Nat × List Nat) := (true, [([], []), ([0], [0]), ([1], [1]), ([], []), ([3], [3]), ([4, 2], [4]), ([2, 5], [2, 5]), ([], []), ([7], [7]), ([8, 5], [8]), ([6, 9], [6, 9]), ([], []), ([11], [11]), ([12, 9], [12]), ([10, 13], [10, 13]), ([14, 13, 0, 1, 2, 3, 4, 5, 6, 7, 8, 9, 10, 11, 12, 13, 14], [14])])
def plaitingref5_Text.B1 : List Nat := [0, 1, 3, 0, 8, 31, 63, 0, 128, 447, 1023, 0, 2048, 7103, 16383, 32767]
theorem plaitingref5_Text.tab1 : rtab .any (opsOf Try.f31 1) = plaitingref5_Text.T1 := by kernel_rfl
theorem plaitingref5_Text.bits1 : waitsOk plaitingref5_Text.T1.2 plaitingref5_Text.B1 = true := by kernel_rfl
set_option maxHeartbeats 8000000 in
set_option maxRecDepth 100000 in
theorem plaitingref5_Text.calls (k : Nat) (a0_0 : Int) (a0_1 : Int) (a0_2 : Int) (a0_3 : Int) (a0_4 : Int) (A0_5 : Option Addr) (c0_5 : Nat) (l0_5 : List Int) (a1_0 : Int) (a1_1 : Int) (a1_2 : Int) (a1_3 : Int) (a1_4 : Int) (A1_5 : Option Addr) (c1_5 : Nat) (l1_5 : List (S26)) (r : ByteArray) (w : World) (hr0_5 : Kd.C (Kd.int .i64) w A0_5 l0_5.length l0_5) (hc0_5 : l0_5.length ≤ c0_5) (hr1_5 : Kd.C k26 w A1_5 l1_5.length l1_5) (hc1_5 : l1_5.length ≤ c1_5) (h : plaitingref5_Text.f k a0_0 a0_1 a0_2 a0_3 a0_4 l0_5 a1_0 a1_1 a1_2 a1_3 a1_4 l1_5 = some r) :
  Calls Try.prog 31 #[.agg #[.int .i64 a0_0, .int .i64 a0_1, .int .i64 a0_2, .int .i64 a0_3, .int .i64 a0_4, .slice A0_5 l0_5.length c0_5], .agg #[.int .i64 a1_0, .int .i64 a1_1, .int .i64 a1_2, .int .i64 a1_3, .int .i64 a1_4, .slice A1_5 l1_5.length c1_5]] w fun e w' => e = .returned (.string r) ∧ Below w.heap.size w w' := by
 have hu24 := Try.underlying24
 have hu29 := Try.underlying29
 have hu26 := Try.underlying26
 have HR0_5 := Aside0.mk hr0_5
 have HC0_5 := Aside0.mk hc0_5
 clear hr0_5 hc0_5
 have HR1_5 := Aside0.mk hr1_5
 have HC1_5 := Aside0.mk hc1_5
 clear hr1_5 hc1_5
 have HB := Aside0.mk (Below.refl w.heap.size w)
 have H : ((plaitingref1_Bits.f k a1_0 2).bind fun tAe => ((plaitingref1_Bits.f k a1_1 16).bind fun tAi => (if tAe.size + tAi.size ≤ 9223372036854775807 then ((plaitingref1_Bits.f k a1_2 6).bind fun tAk => (if (tAe ++ tAi).size + tAk.size ≤ 9223372036854775807 then ((plaitingref5_bits.f k a1_3 a1_4).bind fun tAp => (if ((tAe ++ tAi) ++ tAk).size + tAp.size ≤ 9223372036854775807 then (plaitingref5_Text.l0 k (((tAe ++ tAi) ++ tAk) ++ tAp) 0 a1_0 a1_1 a1_2 a1_3 a1_4 l1_5) else (none))) else (none))) else (none)))) = some r := h
 clear h
 replace H := Option.bind_eq_some_iff.mp H
 obtain ⟨tAe, A30, H⟩ := H
 try dsimp only at H
 have A3 := Aside0.mk A30
 clear A30
 replace H := Option.bind_eq_some_iff.mp H
 obtain ⟨tAi, A40, H⟩ := H
 try dsimp only at H
 have A4 := Aside0.mk A40
 clear A40
 by_cases c5 : tAe.size + tAi.size ≤ 9223372036854775807
 ·
  rw [if_pos c5] at H
  have c5b0 := eq_true c5
  have c5b1 : decide (tAe.size + tAi.size ≤ 9223372036854775807) = true := decide_eq_true c5
  try have c5b2 : (9223372036854775807 < tAe.size + tAi.size) = False := eq_false (Nat.not_lt.2 c5)
  replace H := Option.bind_eq_some_iff.mp H
  obtain ⟨tAk, A60, H⟩ := H
  try dsimp only at H
  have A6 := Aside0.mk A60
  clear A60
  by_cases c7 : (tAe ++ tAi).size + tAk.size ≤ 9223372036854775807
  ·
   rw [if_pos c7] at H
   have c7b0 := eq_true c7
   have c7b1 : decide ((tAe ++ tAi).size + tAk.size ≤ 9223372036854775807) = true := decide_eq_true c7
   try have c7b2 : (9223372036854775807 < (tAe ++ tAi).size + tAk.size) = False := eq_false (Nat.not_lt.2 c7)
   replace H := Option.bind_eq_some_iff.mp H
   obtain ⟨tAp, A80, H⟩ := H
   try dsimp only at H
   have A8 := Aside0.mk A80
   clear A80
   by_cases c9 : ((tAe ++ tAi) ++ tAk).size + tAp.size ≤ 9223372036854775807
   ·
    rw [if_pos c9] at H
    have c9b0 := eq_true c9
    have c9b1 : decide (((tAe ++ tAi) ++ tAk).size + tAp.size ≤ 9223372036854775807) = true := decide_eq_true c9
    try have c9b2 : (9223372036854775807 < ((tAe ++ tAi) ++ tAk).size + tAp.size) = False := eq_false (Nat.not_lt.2 c9)
    have H' := Aside0.mk H
    clear H
    go_enter Try.func31, Try.ntmps31
    try go_wp2_with (first | ((with_reducible refine gate_dst (N := 2) rfl ?_); refine be_ 2 #[.int .i64 a0_0, .int .i64 a0_1, .int .i64 a0_2, .int .i64 a0_3, .int .i64 a0_4, .slice A0_5 l0_5.length c0_5] 24 ?_; intro gbAd hg w10 hbox hb; have n0_ := bs_ HB hb; have n1_ := Aside0.mk (hbox); have n2_ := Aside0.mk ((by rw [hg]; exact (below_size (pH_ HB.out)) : w.heap.size ≤ gbAd)); have n3_ := Aside0.mk ((by rw [hg]; exact (below_size (pH_ HB.out)) : w.heap.size ≤ gbAd)); clear HB; have HB := n0_; have BKAd := n1_; have GWAd := n2_; have GEAd := n3_; clear n0_ n1_ n2_ n3_; clear hb hbox hg) | ((with_reducible refine gate_dst (N := 3) rfl ?_); refine be_ 3 #[.int .i64 a1_0, .int .i64 a1_1, .int .i64 a1_2, .int .i64 a1_3, .int .i64 a1_4, .slice A1_5 l1_5.length c1_5] 29 ?_; intro gbAc hg w11 hbox hb; have n0_ := Aside0.mk (blk_below (g := gbAd) (o := .cells #[.int .i64 a0_0, .int .i64 a0_1, .int .i64 a0_2, .int .i64 a0_3, .int .i64 a0_4, .slice A0_5 l0_5.length c0_5] 24 (0, 0)) (pB_ BKAd.out) hb); have n1_ := bs_ HB hb; have n2_ := Aside0.mk (hbox); have n3_ := Aside0.mk ((by rw [hg]; exact (below_size (pH_ HB.out)) : w.heap.size ≤ gbAc)); have n4_ := Aside0.mk ((by rw [hg]; exact (below_size (pH_ HB.out)) : w.heap.size ≤ gbAc)); have n5_ := Aside0.mk ((by rw [hg]; exact Nat.ne_of_lt (blk_lt (g := gbAd) (o := .cells #[.int .i64 a0_0, .int .i64 a0_1, .int .i64 a0_2, .int .i64 a0_3, .int .i64 a0_4, .slice A0_5 l0_5.length c0_5] 24 (0, 0)) (pB_ BKAd.out)) : gbAd ≠ gbAc)); have n6_ := Aside0.mk ((by rw [hg]; exact Nat.ne_of_gt (blk_lt (g := gbAd) (o := .cells #[.int .i64 a0_0, .int .i64 a0_1, .int .i64 a0_2, .int .i64 a0_3, .int .i64 a0_4, .slice A0_5 l0_5.length c0_5] 24 (0, 0)) (pB_ BKAd.out)) : gbAc ≠ gbAd)); clear BKAd; clear HB; have BKAd := n0_; have HB := n1_; have BKAc := n2_; have GWAc := n3_; have GEAc := n4_; have NBAd_Ac := n5_; have NBAc_Ad := n6_; clear n0_ n1_ n2_ n3_ n4_ n5_ n6_; clear hb hbox hg))
    have n0_ := Aside0.mk (blk_drew BKAd.out)
    have n1_ := Aside0.mk (blk_drew BKAc.out)
    have n2_ := Aside0.mk (below_drew1 HB.out)
    clear BKAd
    clear BKAc
    clear HB
    have BKAd := n0_
    have BKAc := n1_
    have HB := n2_
    clear n0_ n1_ n2_
    refine start_ (n := 16) (S := fun w' => w'.cell? ⟨gbAc, 0, none⟩ = some (.int .i64 a1_0) ∧ w'.cell? ⟨gbAc, 1, none⟩ = some (.int .i64 a1_1) ∧ w'.cell? ⟨gbAc, 2, none⟩ = some (.int .i64 a1_2) ∧ w'.cell? ⟨gbAc, 3, none⟩ = some (.int .i64 a1_3) ∧ w'.cell? ⟨gbAc, 4, none⟩ = some (.int .i64 a1_4) ∧ w'.cell? ⟨gbAc, 5, none⟩ = some (.slice A1_5 l1_5.length c1_5)) (ds := []) #[false, false, false, false, false, false, false, false, false, false, false, false, false, false, false, false] (by kernel_rfl) rfl rfl ⟨bc_ BKAc 0, bc_ BKAc 1, bc_ BKAc 2, bc_ BKAc 3, bc_ BKAc 4, bc_ BKAc 5⟩ (fun hHeld => ?_); refine with_tabW plaitingref5_Text.tab1 plaitingref5_Text.bits1 (fun HT_ HW_ => ?_)
    generalize w11.drew = w12 at BKAd BKAc HB hHeld ⊢
    refine pq_ 0 7 HT_ ?_
    refine pq_ 3 10 HT_ ?_
    refine pq_ 7 14 HT_ ?_
    refine pq_ 11 18 HT_ ?_
    refine tq_ 1 8 HT_ HW_ hHeld ?_
    refine tq_ 4 11 HT_ HW_ hHeld ?_
    refine tq_ 8 15 HT_ HW_ hHeld ?_
    refine tq_ 12 19 HT_ HW_ hHeld ?_
    refine oq_ 2 9 HT_ (fun K hK => ?_)
    refine gs_ Try.func28 #[.int .i64 a1_0, .int .i64 2] ?_
    with_reducible refine (plaitingref1_Bits.calls k a1_0 2 tAe _ A3.out).mono ?_
    rintro e w' ⟨rfl, ⟨nd, rfl⟩⟩
    refine ⟨_, rfl, ?_⟩
    refine hK.out _ _ ⟨bc_ BKAc 0, bc_ BKAc 1, bc_ BKAc 2, bc_ BKAc 3, bc_ BKAc 4, bc_ BKAc 5⟩ (fun hHeld => ?_)
    clear hK K
    refine nq_ 9 ?_
    refine oq_ 5 12 HT_ (fun K hK => ?_)
    refine gs_ Try.func28 #[.int .i64 a1_1, .int .i64 16] ?_
    with_reducible refine (plaitingref1_Bits.calls k a1_1 16 tAi _ A4.out).mono ?_
    rintro e w' ⟨rfl, ⟨nd, rfl⟩⟩
    refine ⟨_, rfl, ?_⟩
    refine hK.out _ _ ⟨bc_ BKAc 0, bc_ BKAc 1, bc_ BKAc 2, bc_ BKAc 3, bc_ BKAc 4, bc_ BKAc 5⟩ (fun hHeld => ?_)
    clear hK K
    refine nq_ 12 ?_
    refine pq_ 6 13 HT_ ?_
    refine oq_ 9 16 HT_ (fun K hK => ?_)
    refine gs_ Try.func28 #[.int .i64 a1_2, .int .i64 6] ?_
    with_reducible refine (plaitingref1_Bits.calls k a1_2 6 tAk _ A6.out).mono ?_
    rintro e w' ⟨rfl, ⟨nd, rfl⟩⟩
    refine ⟨_, rfl, ?_⟩
    refine hK.out _ _ ⟨bc_ BKAc 0, bc_ BKAc 1, bc_ BKAc 2, bc_ BKAc 3, bc_ BKAc 4, bc_ BKAc 5⟩ (fun hHeld => ?_)
    clear hK K
    refine nq_ 16 ?_
    refine pq_ 10 17 HT_ ?_
    refine oq_ 13 20 HT_ (fun K hK => ?_)
    refine gs_ Try.func63 #[.agg #[.int .i64 a1_3, .int .i64 a1_4]] ?_
    with_reducible refine (plaitingref5_bits.calls k a1_3 a1_4 tAp _ A8.out).mono ?_
    rintro e w13 ⟨rfl, hb⟩
    refine ⟨_, rfl, ?_⟩
    have n0_ := Aside0.mk (blk_below (g := gbAd) (o := .cells #[.int .i64 a0_0, .int .i64 a0_1, .int .i64 a0_2, .int .i64 a0_3, .int .i64 a0_4, .slice A0_5 l0_5.length c0_5] 24 (0, 0)) (pB_ BKAd.out) hb)
    have n1_ := Aside0.mk (blk_below (g := gbAc) (o := .cells #[.int .i64 a1_0, .int .i64 a1_1, .int .i64 a1_2, .int .i64 a1_3, .int .i64 a1_4, .slice A1_5 l1_5.length c1_5] 29 (0, 0)) (pB_ BKAc.out) hb)
    have n2_ := bs_ HB hb
    clear BKAd
    clear BKAc
    clear HB
    have BKAd := n0_
    have BKAc := n1_
    have HB := n2_
    clear n0_ n1_ n2_
    (try clear hb)
    (try clear hb2)
    (try clear hk)
    (try clear hi)
    refine hK.out _ _ ⟨bc_ BKAc 0, bc_ BKAc 1, bc_ BKAc 2, bc_ BKAc 3, bc_ BKAc 4, bc_ BKAc 5⟩ (fun hHeld => ?_)
    clear hK K
    refine nq_ 20 ?_
    refine pq_ 14 21 HT_ ?_
    refine pq_ 15 5 HT_ ?_
    refine done_ (done_of HT_.out (by kernel_rfl)) ?_
    try go_wp2
    go_loopg [5, 6] k (fun kq v5 v6 w' => ∃ (x5_1 : ByteArray) (x6_1 : Int), v5 = .string x5_1 ∧ v6 = .int .i64 x6_1 ∧ Aside0 (plaitingref5_Text.l0 kq x5_1 x6_1 a1_0 a1_1 a1_2 a1_3 a1_4 l1_5 = some r) ∧ Aside0 (kq ≤ k) ∧ Aside0 (w'.heap[gbAd]? = some (.cells #[.int .i64 a0_0, .int .i64 a0_1, .int .i64 a0_2, .int .i64 a0_3, .int .i64 a0_4, (.slice A0_5 l0_5.length c0_5)] 24 (0, 0))) ∧ Aside0 (w'.heap[gbAc]? = some (.cells #[.int .i64 a1_0, .int .i64 a1_1, .int .i64 a1_2, .int .i64 a1_3, .int .i64 a1_4, (.slice A1_5 l1_5.length c1_5)] 29 (0, 0))) ∧ Aside0 (Below w.heap.size w w'))
    case atStart => exact ⟨(((tAe ++ tAi) ++ tAk) ++ tAp), (0), (by first | rfl | (simp; done) | (simp [*]; done)), (by first | rfl | (simp; done) | (simp [*]; done)), H', ⟨Nat.le_refl _⟩, ⟨pB_ BKAd.out⟩, ⟨pB_ BKAc.out⟩, ⟨pH_ HB.out⟩⟩
    case round =>
     clear H'
     try clear c1
     try clear c2
     try clear p2
     try clear c3
     try clear c5
     try clear c5b0
     try clear c5b1
     try clear c5b2
     try clear c6
     try clear c7
     try clear c7b0
     try clear c7b1
     try clear c7b2
     try clear c9
     try clear c9b0
     try clear c9b1
     try clear c9b2
     obtain ⟨x5_1, x6_1, rfl, rfl, HA, HK1, BKAd, BKAc, HB⟩ := hrel
     cases gk with
     | zero => exact absurd HA.out (by simp [plaitingref5_Text.l0])
     | succ k1 =>
      have H := HA.out
      clear HA
      simp only [plaitingref5_Text.l0] at H
      by_cases c14 : x6_1 < (l1_5.length : Int)
      ·
       rw [if_pos c14] at H
       have c14b0 : decide (x6_1 < (l1_5.length : Int)) = true := decide_eq_true c14
       clear c14
       by_cases c15 : 0 ≤ x6_1
       ·
        rw [if_pos c15] at H
        have c15b0 : decide (0 ≤ x6_1) = true := decide_eq_true c15
        clear c15
        replace H := Option.bind_eq_some_iff.mp H
        obtain ⟨tAq, A160, H⟩ := H
        try dsimp only at H
        have A16 := Aside0.mk A160
        clear A160
        by_cases c17 : x5_1.size + tAq.size ≤ 9223372036854775807
        ·
         rw [if_pos c17] at H
         have c17b0 := eq_true c17
         have c17b1 : decide (x5_1.size + tAq.size ≤ 9223372036854775807) = true := decide_eq_true c17
         try have c17b2 : (9223372036854775807 < x5_1.size + tAq.size) = False := eq_false (Nat.not_lt.2 c17)
         have H' := Aside0.mk H
         clear H
         have hnb18 := NBAc_Ad.out
         have hnc18 := NBAd_Ac.out
         obtain ⟨hcz19_0, hcz19_1, hcz19_2, hcz19_3, hcz19_4, hcz19_5⟩ := c6_ BKAc
         obtain ⟨hfz19_0, hfz19_1, hfz19_2, hfz19_3, hfz19_4, hfz19_5⟩ := f6_ BKAc
         have pAj : 0 ≤ (x6_1 : Int) := of_decide_eq_true (by first | (with_reducible assumption) | assumption)
         have qAj : x6_1 < (l1_5.length : Int) := of_decide_eq_true (by first | (with_reducible assumption) | assumption)
         obtain ⟨adAj, eAj, hxAj_0, hxAj_1⟩ := at_T26 HR1_5.out x6_1 pAj qAj
         cases eAj
         replace hxAj_0 := (HB.out.cell (World.block_lt_of_cell? w _ hxAj_0)).trans hxAj_0
         replace hxAj_1 := (HB.out.cell (World.block_lt_of_cell? w _ hxAj_1)).trans hxAj_1
         replace pAj := eq_true pAj
         replace qAj := eq_true qAj
         go_wp2_with (first | ((with_reducible refine gate_callee (f := 63) rfl ?_); refine gL_ 35 Try.func63 #[.agg #[.int .i64 ((rd_T26 l1_5 x6_1).f0), .int .i64 ((rd_T26 l1_5 x6_1).f1)]] ?_; (with_reducible refine (plaitingref5_bits.calls k1 ((rd_T26 l1_5 x6_1).f0) ((rd_T26 l1_5 x6_1).f1) tAq _ A16.out).mono ?_); rintro e w20 ⟨rfl, hb⟩; refine ⟨_, rfl, ?_⟩; have n0_ := Aside0.mk (blk_below (g := gbAd) (o := .cells #[.int .i64 a0_0, .int .i64 a0_1, .int .i64 a0_2, .int .i64 a0_3, .int .i64 a0_4, .slice A0_5 l0_5.length c0_5] 24 (0, 0)) (pB_ BKAd.out) hb); have n1_ := Aside0.mk (blk_below (g := gbAc) (o := .cells #[.int .i64 a1_0, .int .i64 a1_1, .int .i64 a1_2, .int .i64 a1_3, .int .i64 a1_4, .slice (some adAj) l1_5.length c1_5] 29 (0, 0)) (pB_ BKAc.out) hb); have n2_ := bs_ HB hb; clear BKAd; clear BKAc; clear HB; have BKAd := n0_; have BKAc := n1_; have HB := n2_; clear n0_ n1_ n2_; (try clear hb); (try clear hb2); (try clear hk); (try clear hi)))
         go_roundg k1
         case measure => have := HK1.out; omega
         case rel => exact ⟨(x5_1 ++ tAq), (wrap64 (x6_1 + 1)), (by first | rfl | (simp; done) | (simp [*]; done)), (by first | rfl | (simp; done) | (simp [*]; done)), H', ⟨by have := HK1.out; omega⟩, ⟨pB_ BKAd.out⟩, ⟨pB_ BKAc.out⟩, ⟨pH_ HB.out⟩⟩
        ·
         rw [if_neg c17] at H
         exact absurd H (by simp)
       ·
        rw [if_neg c15] at H
        exact absurd H (by simp)
      ·
       rw [if_neg c14] at H
       have c14b0 : decide (x6_1 < (l1_5.length : Int)) = false := decide_eq_false c14
       clear c14
       replace H := Option.bind_eq_some_iff.mp H
       obtain ⟨tAs, A210, H⟩ := H
       try dsimp only at H
       have A21 := Aside0.mk A210
       clear A210
       obtain rfl := Option.some.inj H
       have hnb22 := NBAc_Ad.out
       have hnc22 := NBAd_Ac.out
       obtain ⟨hcz23_0, hcz23_1, hcz23_2, hcz23_3, hcz23_4, hcz23_5⟩ := c6_ BKAc
       obtain ⟨hfz23_0, hfz23_1, hfz23_2, hfz23_3, hfz23_4, hfz23_5⟩ := f6_ BKAc
       go_wp2_with (first | ((with_reducible refine gate_callee (f := 34) rfl ?_); refine gL_ 38 Try.func34 #[.string x5_1] ?_; (with_reducible refine (plaitingref2_Wrap.calls k1 x5_1 tAs _ A21.out).mono ?_); rintro e w' ⟨rfl, ⟨nd, rfl⟩⟩; refine ⟨_, rfl, ?_⟩))
       go_ret
       exact ⟨by first | rfl | (simp [errW_none, errW_some] <;> rfl) | (simp [*, errW_none, errW_some] <;> rfl), pH_ HB.out⟩
   ·
    rw [if_neg c9] at H
    exact absurd H (by simp)
  ·
   rw [if_neg c7] at H
   exact absurd H (by simp)
 ·
  rw [if_neg c5] at H
  exact absurd H (by simp)
end Go.Proofs.Ytcpohmfkmgcjkaa.P
