/- Printed by a program of this session (myprint) out of the translation: the functions as plain Lean functions, and that the calls compute them. What counts is Lean's check. -/
import Derived.Test.YtcpohmfkmgcjkaaQFrameSamePx0
import Derived.Test.YtcpohmfkmgcjkaaQFrameSamePx11
import Derived.Test.YtcpohmfkmgcjkaaQFrameSamePx15
import Derived.Test.YtcpohmfkmgcjkaaQFrameSamePx19
import Derived.Test.YtcpohmfkmgcjkaaQFrameSamePx39
namespace Go.Proofs.Ytcpohmfkmgcjkaa.P
open Go.RowKit Go.Proofs.YtcpohmfkmgcjkaaW.PrintWords Go.Proofs.YtcpohmfkmgcjkaaW.PrintLast Go.Proofs.YtcpohmfkmgcjkaaW.PrintMore
attribute [local go_sem] max2_int min2_int max_two min_two max_three min_three max_four min_four
set_option linter.unusedVariables false
set_option linter.unusedSimpArgs false
attribute [-simp] ByteArray.size_extract ByteArray.size_append ByteArray.extract_append_extract
attribute [-go_sem] ByteArray.size_append'
attribute [local go_sem high] eqA26
def plaitingref5_Items.l0 : Nat → List (S26) → List (S26) → Int → Option (Bool)
  | 0, _, _, _ => none
  | k + 1, x0, x1, x5 => if x5 < (x0.length : Int) then (if 0 ≤ x5 then (if x5 < (x1.length : Int) then (if (!(((rd_T26 x0 x5).f0) == ((rd_T26 x1 x5).f0)) || (!(((rd_T26 x0 x5).f1) == ((rd_T26 x1 x5).f1)))) = true then (some false) else (plaitingref5_Items.l0 k x0 x1 (wrap64 (x5 + 1)))) else (none)) else (none)) else (some true)
def plaitingref5_Items.f (k : Nat) (l0 : List (S26)) (l1 : List (S26)) : Option (Bool) := if (l0.length : Int) = (l1.length : Int) then (plaitingref5_Items.l0 k l0 l1 0) else (some false)
set_option maxHeartbeats 8000000 in
set_option maxRecDepth 100000 in
theorem plaitingref5_Items.calls (k : Nat) (A0 : Option Addr) (c0 : Nat) (l0 : List (S26)) (A1 : Option Addr) (c1 : Nat) (l1 : List (S26)) (r : Bool) (w : World) (hr0 : Kd.C k26 w A0 l0.length l0) (hc0 : l0.length ≤ c0) (hr1 : Kd.C k26 w A1 l1.length l1) (hc1 : l1.length ≤ c1) (h : plaitingref5_Items.f k l0 l1 = some r) :
    Calls Try.prog 62 #[.slice A0 l0.length c0, .slice A1 l1.length c1] w fun e w' => e = .returned (.bool r) ∧ Drawn0 w w' := by
  have hu26 := Try.underlying26
  have HR0 := Aside0.mk hr0
  have HC0 := Aside0.mk hc0
  clear hr0 hc0
  have HR1 := Aside0.mk hr1
  have HC1 := Aside0.mk hc1
  clear hr1 hc1
  have H : (if (l0.length : Int) = (l1.length : Int) then (plaitingref5_Items.l0 k l0 l1 0) else (some false)) = some r := h
  clear h
  by_cases c3 : (l0.length : Int) = (l1.length : Int)
  · rw [if_pos c3] at H
    have c3b0 : ((l0.length : Int) == (l1.length : Int)) = true := beq_iff_eq.mpr c3
    have c3b1 : ((l0.length : Int) != (l1.length : Int)) = false := bne_eq_false_iff_eq.mpr c3
    have c3b2 : (l0.length == l1.length) = true := by first | simpa using c3 | (simp at c3 ⊢; omega)
    clear c3
    have H' := Aside0.mk H
    clear H
    go_enter Try.func62, Try.ntmps62
    go_wp2
    repeat (go_quiet (fail); try go_wp2)
    go_loopg [5] k (fun kq v5 w' => ∃ (x5_1 : Int), v5 = .int .i64 x5_1 ∧ Aside0 (plaitingref5_Items.l0 kq l0 l1 x5_1 = some r) ∧ Aside0 (kq ≤ k) ∧ Drawn0 w w')
    case atStart => exact ⟨(0), (by first | rfl | (simp; done) | (simp [*]; done)), H', ⟨Nat.le_refl _⟩, by repeat (first | exact Drawn0.refl _ | apply Drawn0.step)⟩
    case round =>
      clear H'
      try clear c1
      try clear p2
      try clear c3
      try clear c3b0
      try clear c3b1
      try clear c3b2
      obtain ⟨x5_1, rfl, HA, HK1, ⟨m1, rfl⟩⟩ := hrel
      cases gk with
      | zero => exact absurd HA.out (by simp [plaitingref5_Items.l0])
      | succ k1 =>
        have H := HA.out
        clear HA
        simp only [plaitingref5_Items.l0] at H
        by_cases c4 : x5_1 < (l0.length : Int)
        · rw [if_pos c4] at H
          have c4b0 : decide (x5_1 < (l0.length : Int)) = true := decide_eq_true c4
          clear c4
          by_cases c5 : 0 ≤ x5_1
          · rw [if_pos c5] at H
            have c5b0 : decide (0 ≤ x5_1) = true := decide_eq_true c5
            clear c5
            by_cases c6 : x5_1 < (l1.length : Int)
            · rw [if_pos c6] at H
              have c6b0 : decide (x5_1 < (l1.length : Int)) = true := decide_eq_true c6
              clear c6
              by_cases c7 : (!(((rd_T26 l0 x5_1).f0) == ((rd_T26 l1 x5_1).f0)) || (!(((rd_T26 l0 x5_1).f1) == ((rd_T26 l1 x5_1).f1)))) = true
              · rw [if_pos c7] at H
                have c7b0 : (!(((rd_T26 l0 x5_1).f0) == ((rd_T26 l1 x5_1).f0)) || (!(((rd_T26 l0 x5_1).f1) == ((rd_T26 l1 x5_1).f1)))) = true := c7
                clear c7
                obtain rfl := Option.some.inj H
                have p124101 : 0 ≤ (x5_1 : Int) := of_decide_eq_true (by first | (with_reducible assumption) | assumption)
                have q124101 : x5_1 < (l0.length : Int) := of_decide_eq_true (by first | (with_reducible assumption) | assumption)
                obtain ⟨ad124101, e124101, hx124101_0, hx124101_1⟩ := at_T26 HR0.out x5_1 p124101 q124101
                cases e124101
                replace p124101 := eq_true p124101
                replace q124101 := eq_true q124101
                have p124102 : 0 ≤ (x5_1 : Int) := of_decide_eq_true (by first | (with_reducible assumption) | assumption)
                have q124102 : x5_1 < (l1.length : Int) := of_decide_eq_true (by first | (with_reducible assumption) | assumption)
                obtain ⟨ad124102, e124102, hx124102_0, hx124102_1⟩ := at_T26 HR1.out x5_1 p124102 q124102
                cases e124102
                replace p124102 := eq_true p124102
                replace q124102 := eq_true q124102
                go_wp2
                repeat (go_quiet (fail); try go_wp2)
                go_ret
                exact ⟨by first | rfl | (simp; done) | (simp [*]; done), by repeat (first | exact Drawn0.refl _ | apply Drawn0.step)⟩
              · rw [if_neg c7] at H
                have c7b0 : (!(((rd_T26 l0 x5_1).f0) == ((rd_T26 l1 x5_1).f0)) || (!(((rd_T26 l0 x5_1).f1) == ((rd_T26 l1 x5_1).f1)))) = false := by simpa using c7
                clear c7
                have H' := Aside0.mk H
                clear H
                have p124101 : 0 ≤ (x5_1 : Int) := of_decide_eq_true (by first | (with_reducible assumption) | assumption)
                have q124101 : x5_1 < (l0.length : Int) := of_decide_eq_true (by first | (with_reducible assumption) | assumption)
                obtain ⟨ad124101, e124101, hx124101_0, hx124101_1⟩ := at_T26 HR0.out x5_1 p124101 q124101
                cases e124101
                replace p124101 := eq_true p124101
                replace q124101 := eq_true q124101
                have p124102 : 0 ≤ (x5_1 : Int) := of_decide_eq_true (by first | (with_reducible assumption) | assumption)
                have q124102 : x5_1 < (l1.length : Int) := of_decide_eq_true (by first | (with_reducible assumption) | assumption)
                obtain ⟨ad124102, e124102, hx124102_0, hx124102_1⟩ := at_T26 HR1.out x5_1 p124102 q124102
                cases e124102
                replace p124102 := eq_true p124102
                replace q124102 := eq_true q124102
                go_wp2
                repeat (go_quiet (fail); try go_wp2)
                go_roundg k1
                case measure => have := HK1.out; omega
                case rel => exact ⟨(wrap64 (x5_1 + 1)), (by first | rfl | (simp; done) | (simp [*]; done)), H', ⟨by have := HK1.out; omega⟩, by repeat (first | exact Drawn0.refl _ | apply Drawn0.step)⟩
            · rw [if_neg c6] at H
              exact absurd H (by simp)
          · rw [if_neg c5] at H
            exact absurd H (by simp)
        · rw [if_neg c4] at H
          have c4b0 : decide (x5_1 < (l0.length : Int)) = false := decide_eq_false c4
          clear c4
          obtain rfl := Option.some.inj H
          go_wp2
          repeat (go_quiet (fail); try go_wp2)
          go_ret
          exact ⟨by first | rfl | (simp; done) | (simp [*]; done), by repeat (first | exact Drawn0.refl _ | apply Drawn0.step)⟩
  · rw [if_neg c3] at H
    have c3b0 : ((l0.length : Int) == (l1.length : Int)) = false := beq_eq_false_iff_ne.mpr c3
    have c3b1 : ((l0.length : Int) != (l1.length : Int)) = true := bne_iff_ne.mpr c3
    have c3b2 : (l0.length == l1.length) = false := by first | simpa using c3 | (simp at c3 ⊢; omega)
    obtain rfl := Option.some.inj H
    go_enter Try.func62, Try.ntmps62
    go_wp2
    repeat (go_quiet (fail); try go_wp2)
    go_ret
    exact ⟨by first | rfl | (simp; done) | (simp [*]; done), by repeat (first | exact Drawn0.refl _ | apply Drawn0.step)⟩
def plaitingref5_Same.f (k : Nat) (a0_0 : Int) (a0_1 : Int) (a0_2 : Int) (a0_3 : Int) (a0_4 : Int) (l0_5 : List (S26)) (a1_0 : Int) (a1_1 : Int) (a1_2 : Int) (a1_3 : Int) (a1_4 : Int) (l1_5 : List (S26)) : Option (Bool) := if a0_0 = a1_0 then (if a0_1 = a1_1 then (if a0_2 = a1_2 then (if (!(a0_3 == a1_3) || (!(a0_4 == a1_4))) = true then (some false) else ((plaitingref5_Items.f k l0_5 l1_5).bind fun t60103 => (some t60103))) else (some false)) else (some false)) else (some false)
set_option maxHeartbeats 8000000 in
set_option maxRecDepth 100000 in
theorem plaitingref5_Same.calls (k : Nat) (a0_0 : Int) (a0_1 : Int) (a0_2 : Int) (a0_3 : Int) (a0_4 : Int) (A0_5 : Option Addr) (c0_5 : Nat) (l0_5 : List (S26)) (a1_0 : Int) (a1_1 : Int) (a1_2 : Int) (a1_3 : Int) (a1_4 : Int) (A1_5 : Option Addr) (c1_5 : Nat) (l1_5 : List (S26)) (r : Bool) (w : World) (hr0_5 : Kd.C k26 w A0_5 l0_5.length l0_5) (hc0_5 : l0_5.length ≤ c0_5) (hr1_5 : Kd.C k26 w A1_5 l1_5.length l1_5) (hc1_5 : l1_5.length ≤ c1_5) (h : plaitingref5_Same.f k a0_0 a0_1 a0_2 a0_3 a0_4 l0_5 a1_0 a1_1 a1_2 a1_3 a1_4 l1_5 = some r) :
    Calls Try.prog 30 #[.agg #[.int .i64 a0_0, .int .i64 a0_1, .int .i64 a0_2, .int .i64 a0_3, .int .i64 a0_4, .slice A0_5 l0_5.length c0_5], .agg #[.int .i64 a1_0, .int .i64 a1_1, .int .i64 a1_2, .int .i64 a1_3, .int .i64 a1_4, .slice A1_5 l1_5.length c1_5]] w fun e w' => e = .returned (.bool r) ∧ Below w.heap.size w w' := by
  have hu29 := Try.underlying29
  have hu26 := Try.underlying26
  have HR0_5 := Aside0.mk hr0_5
  have HC0_5 := Aside0.mk hc0_5
  clear hr0_5 hc0_5
  have HR1_5 := Aside0.mk hr1_5
  have HC1_5 := Aside0.mk hc1_5
  clear hr1_5 hc1_5
  have HB := Aside0.mk (Below.refl w.heap.size w)
  have H : (if a0_0 = a1_0 then (if a0_1 = a1_1 then (if a0_2 = a1_2 then (if (!(a0_3 == a1_3) || (!(a0_4 == a1_4))) = true then (some false) else ((plaitingref5_Items.f k l0_5 l1_5).bind fun t60103 => (some t60103))) else (some false)) else (some false)) else (some false)) = some r := h
  clear h
  by_cases c3 : a0_0 = a1_0
  · rw [if_pos c3] at H
    have c3b0 : (a0_0 == a1_0) = true := beq_iff_eq.mpr c3
    have c3b1 : (a0_0 != a1_0) = false := bne_eq_false_iff_eq.mpr c3
    clear c3
    by_cases c4 : a0_1 = a1_1
    · rw [if_pos c4] at H
      have c4b0 : (a0_1 == a1_1) = true := beq_iff_eq.mpr c4
      have c4b1 : (a0_1 != a1_1) = false := bne_eq_false_iff_eq.mpr c4
      clear c4
      by_cases c5 : a0_2 = a1_2
      · rw [if_pos c5] at H
        have c5b0 : (a0_2 == a1_2) = true := beq_iff_eq.mpr c5
        have c5b1 : (a0_2 != a1_2) = false := bne_eq_false_iff_eq.mpr c5
        clear c5
        by_cases c6 : (!(a0_3 == a1_3) || (!(a0_4 == a1_4))) = true
        · rw [if_pos c6] at H
          have c6b0 : (!(a0_3 == a1_3) || (!(a0_4 == a1_4))) = true := c6
          clear c6
          obtain rfl := Option.some.inj H
          go_enter Try.func30, Try.ntmps30
          go_wp2_with (first | ((with_reducible refine gate_dst (N := 2) rfl ?_); refine box_event ?hg (N := 2) ?hd (cs := #[.int .i64 a0_0, .int .i64 a0_1, .int .i64 a0_2, .int .i64 a0_3, .int .i64 a0_4, .slice A0_5 l0_5.length c0_5]) (t := 29) ?hr ?_; (case hd => rfl); (case hg => rfl); (case hr => first | (go_simp; done) | (go_simp; rfl)); intro gb60101 hg w7 hbox hb; have n0_ := Aside0.mk (below_step (by repeat (first | (with_reducible first | exact HB.out | apply below_alloc | apply pw_below_drewN | apply below_drew1) | exact HB.out)) hb); have n1_ := Aside0.mk (hbox); have n2_ := Aside0.mk ((by rw [hg]; exact (below_size (by repeat (first | (with_reducible first | exact HB.out | apply below_alloc | apply pw_below_drewN | apply below_drew1) | exact HB.out))) : w.heap.size ≤ gb60101)); have n3_ := Aside0.mk ((by rw [hg]; exact (below_size (by repeat (first | (with_reducible first | exact HB.out | apply below_alloc | apply pw_below_drewN | apply below_drew1) | exact HB.out))) : w.heap.size ≤ gb60101)); clear HB; have HB := n0_; have BK60101 := n1_; have GW60101 := n2_; have GE60101 := n3_; clear n0_ n1_ n2_ n3_; clear hb hbox hg) | ((with_reducible refine gate_dst (N := 3) rfl ?_); refine box_event ?hg (N := 3) ?hd (cs := #[.int .i64 a1_0, .int .i64 a1_1, .int .i64 a1_2, .int .i64 a1_3, .int .i64 a1_4, .slice A1_5 l1_5.length c1_5]) (t := 29) ?hr ?_; (case hd => rfl); (case hg => rfl); (case hr => first | (go_simp; done) | (go_simp; rfl)); intro gb60102 hg w8 hbox hb; have n0_ := Aside0.mk (blk_below (g := gb60101) (o := .cells #[.int .i64 a0_0, .int .i64 a0_1, .int .i64 a0_2, .int .i64 a0_3, .int .i64 a0_4, .slice A0_5 l0_5.length c0_5] 29 (0, 0)) (by (with_reducible repeat (first | refine blk_drewN ?_ _ | refine blk_drew ?_ | refine blk_alloc ?_ _)); exact BK60101.out) hb); have n1_ := Aside0.mk (below_step (by repeat (first | (with_reducible first | exact HB.out | apply below_alloc | apply pw_below_drewN | apply below_drew1 | refine below_set ?_ GE60101.out) | exact HB.out)) hb); have n2_ := Aside0.mk (hbox); have n3_ := Aside0.mk ((by rw [hg]; exact (below_size (by repeat (first | (with_reducible first | exact HB.out | apply below_alloc | apply pw_below_drewN | apply below_drew1 | refine below_set ?_ GE60101.out) | exact HB.out))) : w.heap.size ≤ gb60102)); have n4_ := Aside0.mk ((by rw [hg]; exact (below_size (by repeat (first | (with_reducible first | exact HB.out | apply below_alloc | apply pw_below_drewN | apply below_drew1 | refine below_set ?_ GE60101.out) | exact HB.out))) : w.heap.size ≤ gb60102)); have n5_ := Aside0.mk ((by rw [hg]; exact Nat.ne_of_lt (blk_lt (g := gb60101) (o := .cells #[.int .i64 a0_0, .int .i64 a0_1, .int .i64 a0_2, .int .i64 a0_3, .int .i64 a0_4, .slice A0_5 l0_5.length c0_5] 29 (0, 0)) (by (with_reducible repeat (first | refine blk_drewN ?_ _ | refine blk_drew ?_ | refine blk_alloc ?_ _)); exact BK60101.out)) : gb60101 ≠ gb60102)); have n6_ := Aside0.mk ((by rw [hg]; exact Nat.ne_of_gt (blk_lt (g := gb60101) (o := .cells #[.int .i64 a0_0, .int .i64 a0_1, .int .i64 a0_2, .int .i64 a0_3, .int .i64 a0_4, .slice A0_5 l0_5.length c0_5] 29 (0, 0)) (by (with_reducible repeat (first | refine blk_drewN ?_ _ | refine blk_drew ?_ | refine blk_alloc ?_ _)); exact BK60101.out)) : gb60102 ≠ gb60101)); clear BK60101; clear HB; have BK60101 := n0_; have HB := n1_; have BK60102 := n2_; have GW60102 := n3_; have GE60102 := n4_; have NB60101_60102 := n5_; have NB60102_60101 := n6_; clear n0_ n1_ n2_ n3_ n4_ n5_ n6_; clear hb hbox hg; have hnb9 := NB60101_60102.out; have hnc9 := NB60102_60101.out; have hcz10_0 : w8.cell? ⟨gb60101, 0, none⟩ = some (.int .i64 a0_0) := (blk_cell BK60101.out 0).trans rfl; have hcz10_1 : w8.cell? ⟨gb60101, 1, none⟩ = some (.int .i64 a0_1) := (blk_cell BK60101.out 1).trans rfl; have hcz10_2 : w8.cell? ⟨gb60101, 2, none⟩ = some (.int .i64 a0_2) := (blk_cell BK60101.out 2).trans rfl; have hcz10_3 : w8.cell? ⟨gb60101, 3, none⟩ = some (.int .i64 a0_3) := (blk_cell BK60101.out 3).trans rfl; have hcz10_4 : w8.cell? ⟨gb60101, 4, none⟩ = some (.int .i64 a0_4) := (blk_cell BK60101.out 4).trans rfl; have hcz10_5 : w8.cell? ⟨gb60101, 5, none⟩ = some (.slice A0_5 l0_5.length c0_5) := (blk_cell BK60101.out 5).trans rfl; have hfz10_0 := blk_frozen BK60101.out 0; have hfz10_1 := blk_frozen BK60101.out 1; have hfz10_2 := blk_frozen BK60101.out 2; have hfz10_3 := blk_frozen BK60101.out 3; have hfz10_4 := blk_frozen BK60101.out 4; have hfz10_5 := blk_frozen BK60101.out 5; have hcz11_0 : w8.cell? ⟨gb60102, 0, none⟩ = some (.int .i64 a1_0) := (blk_cell BK60102.out 0).trans rfl; have hcz11_1 : w8.cell? ⟨gb60102, 1, none⟩ = some (.int .i64 a1_1) := (blk_cell BK60102.out 1).trans rfl; have hcz11_2 : w8.cell? ⟨gb60102, 2, none⟩ = some (.int .i64 a1_2) := (blk_cell BK60102.out 2).trans rfl; have hcz11_3 : w8.cell? ⟨gb60102, 3, none⟩ = some (.int .i64 a1_3) := (blk_cell BK60102.out 3).trans rfl; have hcz11_4 : w8.cell? ⟨gb60102, 4, none⟩ = some (.int .i64 a1_4) := (blk_cell BK60102.out 4).trans rfl; have hcz11_5 : w8.cell? ⟨gb60102, 5, none⟩ = some (.slice A1_5 l1_5.length c1_5) := (blk_cell BK60102.out 5).trans rfl; have hfz11_0 := blk_frozen BK60102.out 0; have hfz11_1 := blk_frozen BK60102.out 1; have hfz11_2 := blk_frozen BK60102.out 2; have hfz11_3 := blk_frozen BK60102.out 3; have hfz11_4 := blk_frozen BK60102.out 4; have hfz11_5 := blk_frozen BK60102.out 5))
          go_ret
          exact ⟨by first | rfl | (simp [errW_none, errW_some] <;> rfl) | (simp [*, errW_none, errW_some] <;> rfl), by repeat (first | (with_reducible first | exact HB.out | apply below_alloc | apply pw_below_drewN | apply below_drew1 | refine below_set ?_ GE60101.out | refine below_set ?_ GE60102.out) | exact HB.out)⟩
        · rw [if_neg c6] at H
          have c6b0 : (!(a0_3 == a1_3) || (!(a0_4 == a1_4))) = false := by simpa using c6
          clear c6
          replace H := Option.bind_eq_some_iff.mp H
          obtain ⟨t60103, A120, H⟩ := H
          replace H : (some t60103) = some r := H
          have A12 := Aside0.mk A120
          clear A120
          obtain rfl := Option.some.inj H
          go_enter Try.func30, Try.ntmps30
          go_wp2_with (first | ((with_reducible refine gate_dst (N := 2) rfl ?_); refine box_event ?hg (N := 2) ?hd (cs := #[.int .i64 a0_0, .int .i64 a0_1, .int .i64 a0_2, .int .i64 a0_3, .int .i64 a0_4, .slice A0_5 l0_5.length c0_5]) (t := 29) ?hr ?_; (case hd => rfl); (case hg => rfl); (case hr => first | (go_simp; done) | (go_simp; rfl)); intro gb60101 hg w13 hbox hb; have n0_ := Aside0.mk (below_step (by repeat (first | (with_reducible first | exact HB.out | apply below_alloc | apply pw_below_drewN | apply below_drew1) | exact HB.out)) hb); have n1_ := Aside0.mk (hbox); have n2_ := Aside0.mk ((by rw [hg]; exact (below_size (by repeat (first | (with_reducible first | exact HB.out | apply below_alloc | apply pw_below_drewN | apply below_drew1) | exact HB.out))) : w.heap.size ≤ gb60101)); have n3_ := Aside0.mk ((by rw [hg]; exact (below_size (by repeat (first | (with_reducible first | exact HB.out | apply below_alloc | apply pw_below_drewN | apply below_drew1) | exact HB.out))) : w.heap.size ≤ gb60101)); clear HB; have HB := n0_; have BK60101 := n1_; have GW60101 := n2_; have GE60101 := n3_; clear n0_ n1_ n2_ n3_; clear hb hbox hg) | ((with_reducible refine gate_dst (N := 3) rfl ?_); refine box_event ?hg (N := 3) ?hd (cs := #[.int .i64 a1_0, .int .i64 a1_1, .int .i64 a1_2, .int .i64 a1_3, .int .i64 a1_4, .slice A1_5 l1_5.length c1_5]) (t := 29) ?hr ?_; (case hd => rfl); (case hg => rfl); (case hr => first | (go_simp; done) | (go_simp; rfl)); intro gb60102 hg w14 hbox hb; have n0_ := Aside0.mk (blk_below (g := gb60101) (o := .cells #[.int .i64 a0_0, .int .i64 a0_1, .int .i64 a0_2, .int .i64 a0_3, .int .i64 a0_4, .slice A0_5 l0_5.length c0_5] 29 (0, 0)) (by (with_reducible repeat (first | refine blk_drewN ?_ _ | refine blk_drew ?_ | refine blk_alloc ?_ _)); exact BK60101.out) hb); have n1_ := Aside0.mk (below_step (by repeat (first | (with_reducible first | exact HB.out | apply below_alloc | apply pw_below_drewN | apply below_drew1 | refine below_set ?_ GE60101.out) | exact HB.out)) hb); have n2_ := Aside0.mk (hbox); have n3_ := Aside0.mk ((by rw [hg]; exact (below_size (by repeat (first | (with_reducible first | exact HB.out | apply below_alloc | apply pw_below_drewN | apply below_drew1 | refine below_set ?_ GE60101.out) | exact HB.out))) : w.heap.size ≤ gb60102)); have n4_ := Aside0.mk ((by rw [hg]; exact (below_size (by repeat (first | (with_reducible first | exact HB.out | apply below_alloc | apply pw_below_drewN | apply below_drew1 | refine below_set ?_ GE60101.out) | exact HB.out))) : w.heap.size ≤ gb60102)); have n5_ := Aside0.mk ((by rw [hg]; exact Nat.ne_of_lt (blk_lt (g := gb60101) (o := .cells #[.int .i64 a0_0, .int .i64 a0_1, .int .i64 a0_2, .int .i64 a0_3, .int .i64 a0_4, .slice A0_5 l0_5.length c0_5] 29 (0, 0)) (by (with_reducible repeat (first | refine blk_drewN ?_ _ | refine blk_drew ?_ | refine blk_alloc ?_ _)); exact BK60101.out)) : gb60101 ≠ gb60102)); have n6_ := Aside0.mk ((by rw [hg]; exact Nat.ne_of_gt (blk_lt (g := gb60101) (o := .cells #[.int .i64 a0_0, .int .i64 a0_1, .int .i64 a0_2, .int .i64 a0_3, .int .i64 a0_4, .slice A0_5 l0_5.length c0_5] 29 (0, 0)) (by (with_reducible repeat (first | refine blk_drewN ?_ _ | refine blk_drew ?_ | refine blk_alloc ?_ _)); exact BK60101.out)) : gb60102 ≠ gb60101)); clear BK60101; clear HB; have BK60101 := n0_; have HB := n1_; have BK60102 := n2_; have GW60102 := n3_; have GE60102 := n4_; have NB60101_60102 := n5_; have NB60102_60101 := n6_; clear n0_ n1_ n2_ n3_ n4_ n5_ n6_; clear hb hbox hg; have hnb15 := NB60101_60102.out; have hnc15 := NB60102_60101.out; have hcz16_0 : w14.cell? ⟨gb60101, 0, none⟩ = some (.int .i64 a0_0) := (blk_cell BK60101.out 0).trans rfl; have hcz16_1 : w14.cell? ⟨gb60101, 1, none⟩ = some (.int .i64 a0_1) := (blk_cell BK60101.out 1).trans rfl; have hcz16_2 : w14.cell? ⟨gb60101, 2, none⟩ = some (.int .i64 a0_2) := (blk_cell BK60101.out 2).trans rfl; have hcz16_3 : w14.cell? ⟨gb60101, 3, none⟩ = some (.int .i64 a0_3) := (blk_cell BK60101.out 3).trans rfl; have hcz16_4 : w14.cell? ⟨gb60101, 4, none⟩ = some (.int .i64 a0_4) := (blk_cell BK60101.out 4).trans rfl; have hcz16_5 : w14.cell? ⟨gb60101, 5, none⟩ = some (.slice A0_5 l0_5.length c0_5) := (blk_cell BK60101.out 5).trans rfl; have hfz16_0 := blk_frozen BK60101.out 0; have hfz16_1 := blk_frozen BK60101.out 1; have hfz16_2 := blk_frozen BK60101.out 2; have hfz16_3 := blk_frozen BK60101.out 3; have hfz16_4 := blk_frozen BK60101.out 4; have hfz16_5 := blk_frozen BK60101.out 5; have hcz17_0 : w14.cell? ⟨gb60102, 0, none⟩ = some (.int .i64 a1_0) := (blk_cell BK60102.out 0).trans rfl; have hcz17_1 : w14.cell? ⟨gb60102, 1, none⟩ = some (.int .i64 a1_1) := (blk_cell BK60102.out 1).trans rfl; have hcz17_2 : w14.cell? ⟨gb60102, 2, none⟩ = some (.int .i64 a1_2) := (blk_cell BK60102.out 2).trans rfl; have hcz17_3 : w14.cell? ⟨gb60102, 3, none⟩ = some (.int .i64 a1_3) := (blk_cell BK60102.out 3).trans rfl; have hcz17_4 : w14.cell? ⟨gb60102, 4, none⟩ = some (.int .i64 a1_4) := (blk_cell BK60102.out 4).trans rfl; have hcz17_5 : w14.cell? ⟨gb60102, 5, none⟩ = some (.slice A1_5 l1_5.length c1_5) := (blk_cell BK60102.out 5).trans rfl; have hfz17_0 := blk_frozen BK60102.out 0; have hfz17_1 := blk_frozen BK60102.out 1; have hfz17_2 := blk_frozen BK60102.out 2; have hfz17_3 := blk_frozen BK60102.out 3; have hfz17_4 := blk_frozen BK60102.out 4; have hfz17_5 := blk_frozen BK60102.out 5) | ((with_reducible refine gate_callee (f := 62) rfl ?_); refine goesL_ (some 35) rfl rfl Try.func62 (by kernel_rfl) rfl #[.slice A0_5 l0_5.length c0_5, .slice A1_5 l1_5.length c1_5] rfl (by (try simp only [List.map_toArray, List.map_cons, List.map_nil]); first | done | rfl | (simp only [List.length_drop, List.length_take]; rfl)) ?_; (with_reducible refine (plaitingref5_Items.calls k _ _ l0_5 _ _ l1_5 t60103 _ ?side1 ?side2 ?side3 ?side4 A12.out).mono ?_); (case side1 => repeat (first | exact (Kd.C_below HR0_5.out HB.out) | (with_reducible refine Kd.C_alloc ?_ _) | (with_reducible refine Kd.C_drewN ?_ _) | (with_reducible refine Kd.C_drew ?_))); (case side2 => exact HC0_5.out); (case side3 => repeat (first | exact (Kd.C_below HR1_5.out HB.out) | (with_reducible refine Kd.C_alloc ?_ _) | (with_reducible refine Kd.C_drewN ?_ _) | (with_reducible refine Kd.C_drew ?_))); (case side4 => exact HC1_5.out); rintro e w' ⟨rfl, ⟨nd, rfl⟩⟩; refine ⟨_, rfl, ?_⟩))
          go_ret
          exact ⟨by first | rfl | (simp [errW_none, errW_some] <;> rfl) | (simp [*, errW_none, errW_some] <;> rfl), by repeat (first | (with_reducible first | exact HB.out | apply below_alloc | apply pw_below_drewN | apply below_drew1 | refine below_set ?_ GE60101.out | refine below_set ?_ GE60102.out) | exact HB.out)⟩
      · rw [if_neg c5] at H
        have c5b0 : (a0_2 == a1_2) = false := beq_eq_false_iff_ne.mpr c5
        have c5b1 : (a0_2 != a1_2) = true := bne_iff_ne.mpr c5
        obtain rfl := Option.some.inj H
        go_enter Try.func30, Try.ntmps30
        go_wp2_with (first | ((with_reducible refine gate_dst (N := 2) rfl ?_); refine box_event ?hg (N := 2) ?hd (cs := #[.int .i64 a0_0, .int .i64 a0_1, .int .i64 a0_2, .int .i64 a0_3, .int .i64 a0_4, .slice A0_5 l0_5.length c0_5]) (t := 29) ?hr ?_; (case hd => rfl); (case hg => rfl); (case hr => first | (go_simp; done) | (go_simp; rfl)); intro gb60101 hg w18 hbox hb; have n0_ := Aside0.mk (below_step (by repeat (first | (with_reducible first | exact HB.out | apply below_alloc | apply pw_below_drewN | apply below_drew1) | exact HB.out)) hb); have n1_ := Aside0.mk (hbox); have n2_ := Aside0.mk ((by rw [hg]; exact (below_size (by repeat (first | (with_reducible first | exact HB.out | apply below_alloc | apply pw_below_drewN | apply below_drew1) | exact HB.out))) : w.heap.size ≤ gb60101)); have n3_ := Aside0.mk ((by rw [hg]; exact (below_size (by repeat (first | (with_reducible first | exact HB.out | apply below_alloc | apply pw_below_drewN | apply below_drew1) | exact HB.out))) : w.heap.size ≤ gb60101)); clear HB; have HB := n0_; have BK60101 := n1_; have GW60101 := n2_; have GE60101 := n3_; clear n0_ n1_ n2_ n3_; clear hb hbox hg) | ((with_reducible refine gate_dst (N := 3) rfl ?_); refine box_event ?hg (N := 3) ?hd (cs := #[.int .i64 a1_0, .int .i64 a1_1, .int .i64 a1_2, .int .i64 a1_3, .int .i64 a1_4, .slice A1_5 l1_5.length c1_5]) (t := 29) ?hr ?_; (case hd => rfl); (case hg => rfl); (case hr => first | (go_simp; done) | (go_simp; rfl)); intro gb60102 hg w19 hbox hb; have n0_ := Aside0.mk (blk_below (g := gb60101) (o := .cells #[.int .i64 a0_0, .int .i64 a0_1, .int .i64 a0_2, .int .i64 a0_3, .int .i64 a0_4, .slice A0_5 l0_5.length c0_5] 29 (0, 0)) (by (with_reducible repeat (first | refine blk_drewN ?_ _ | refine blk_drew ?_ | refine blk_alloc ?_ _)); exact BK60101.out) hb); have n1_ := Aside0.mk (below_step (by repeat (first | (with_reducible first | exact HB.out | apply below_alloc | apply pw_below_drewN | apply below_drew1 | refine below_set ?_ GE60101.out) | exact HB.out)) hb); have n2_ := Aside0.mk (hbox); have n3_ := Aside0.mk ((by rw [hg]; exact (below_size (by repeat (first | (with_reducible first | exact HB.out | apply below_alloc | apply pw_below_drewN | apply below_drew1 | refine below_set ?_ GE60101.out) | exact HB.out))) : w.heap.size ≤ gb60102)); have n4_ := Aside0.mk ((by rw [hg]; exact (below_size (by repeat (first | (with_reducible first | exact HB.out | apply below_alloc | apply pw_below_drewN | apply below_drew1 | refine below_set ?_ GE60101.out) | exact HB.out))) : w.heap.size ≤ gb60102)); have n5_ := Aside0.mk ((by rw [hg]; exact Nat.ne_of_lt (blk_lt (g := gb60101) (o := .cells #[.int .i64 a0_0, .int .i64 a0_1, .int .i64 a0_2, .int .i64 a0_3, .int .i64 a0_4, .slice A0_5 l0_5.length c0_5] 29 (0, 0)) (by (with_reducible repeat (first | refine blk_drewN ?_ _ | refine blk_drew ?_ | refine blk_alloc ?_ _)); exact BK60101.out)) : gb60101 ≠ gb60102)); have n6_ := Aside0.mk ((by rw [hg]; exact Nat.ne_of_gt (blk_lt (g := gb60101) (o := .cells #[.int .i64 a0_0, .int .i64 a0_1, .int .i64 a0_2, .int .i64 a0_3, .int .i64 a0_4, .slice A0_5 l0_5.length c0_5] 29 (0, 0)) (by (with_reducible repeat (first | refine blk_drewN ?_ _ | refine blk_drew ?_ | refine blk_alloc ?_ _)); exact BK60101.out)) : gb60102 ≠ gb60101)); clear BK60101; clear HB; have BK60101 := n0_; have HB := n1_; have BK60102 := n2_; have GW60102 := n3_; have GE60102 := n4_; have NB60101_60102 := n5_; have NB60102_60101 := n6_; clear n0_ n1_ n2_ n3_ n4_ n5_ n6_; clear hb hbox hg; have hnb20 := NB60101_60102.out; have hnc20 := NB60102_60101.out; have hcz21_0 : w19.cell? ⟨gb60101, 0, none⟩ = some (.int .i64 a0_0) := (blk_cell BK60101.out 0).trans rfl; have hcz21_1 : w19.cell? ⟨gb60101, 1, none⟩ = some (.int .i64 a0_1) := (blk_cell BK60101.out 1).trans rfl; have hcz21_2 : w19.cell? ⟨gb60101, 2, none⟩ = some (.int .i64 a0_2) := (blk_cell BK60101.out 2).trans rfl; have hcz21_3 : w19.cell? ⟨gb60101, 3, none⟩ = some (.int .i64 a0_3) := (blk_cell BK60101.out 3).trans rfl; have hcz21_4 : w19.cell? ⟨gb60101, 4, none⟩ = some (.int .i64 a0_4) := (blk_cell BK60101.out 4).trans rfl; have hcz21_5 : w19.cell? ⟨gb60101, 5, none⟩ = some (.slice A0_5 l0_5.length c0_5) := (blk_cell BK60101.out 5).trans rfl; have hfz21_0 := blk_frozen BK60101.out 0; have hfz21_1 := blk_frozen BK60101.out 1; have hfz21_2 := blk_frozen BK60101.out 2; have hfz21_3 := blk_frozen BK60101.out 3; have hfz21_4 := blk_frozen BK60101.out 4; have hfz21_5 := blk_frozen BK60101.out 5; have hcz22_0 : w19.cell? ⟨gb60102, 0, none⟩ = some (.int .i64 a1_0) := (blk_cell BK60102.out 0).trans rfl; have hcz22_1 : w19.cell? ⟨gb60102, 1, none⟩ = some (.int .i64 a1_1) := (blk_cell BK60102.out 1).trans rfl; have hcz22_2 : w19.cell? ⟨gb60102, 2, none⟩ = some (.int .i64 a1_2) := (blk_cell BK60102.out 2).trans rfl; have hcz22_3 : w19.cell? ⟨gb60102, 3, none⟩ = some (.int .i64 a1_3) := (blk_cell BK60102.out 3).trans rfl; have hcz22_4 : w19.cell? ⟨gb60102, 4, none⟩ = some (.int .i64 a1_4) := (blk_cell BK60102.out 4).trans rfl; have hcz22_5 : w19.cell? ⟨gb60102, 5, none⟩ = some (.slice A1_5 l1_5.length c1_5) := (blk_cell BK60102.out 5).trans rfl; have hfz22_0 := blk_frozen BK60102.out 0; have hfz22_1 := blk_frozen BK60102.out 1; have hfz22_2 := blk_frozen BK60102.out 2; have hfz22_3 := blk_frozen BK60102.out 3; have hfz22_4 := blk_frozen BK60102.out 4; have hfz22_5 := blk_frozen BK60102.out 5))
        go_ret
        exact ⟨by first | rfl | (simp [errW_none, errW_some] <;> rfl) | (simp [*, errW_none, errW_some] <;> rfl), by repeat (first | (with_reducible first | exact HB.out | apply below_alloc | apply pw_below_drewN | apply below_drew1 | refine below_set ?_ GE60101.out | refine below_set ?_ GE60102.out) | exact HB.out)⟩
    · rw [if_neg c4] at H
      have c4b0 : (a0_1 == a1_1) = false := beq_eq_false_iff_ne.mpr c4
      have c4b1 : (a0_1 != a1_1) = true := bne_iff_ne.mpr c4
      obtain rfl := Option.some.inj H
      go_enter Try.func30, Try.ntmps30
      go_wp2_with (first | ((with_reducible refine gate_dst (N := 2) rfl ?_); refine box_event ?hg (N := 2) ?hd (cs := #[.int .i64 a0_0, .int .i64 a0_1, .int .i64 a0_2, .int .i64 a0_3, .int .i64 a0_4, .slice A0_5 l0_5.length c0_5]) (t := 29) ?hr ?_; (case hd => rfl); (case hg => rfl); (case hr => first | (go_simp; done) | (go_simp; rfl)); intro gb60101 hg w23 hbox hb; have n0_ := Aside0.mk (below_step (by repeat (first | (with_reducible first | exact HB.out | apply below_alloc | apply pw_below_drewN | apply below_drew1) | exact HB.out)) hb); have n1_ := Aside0.mk (hbox); have n2_ := Aside0.mk ((by rw [hg]; exact (below_size (by repeat (first | (with_reducible first | exact HB.out | apply below_alloc | apply pw_below_drewN | apply below_drew1) | exact HB.out))) : w.heap.size ≤ gb60101)); have n3_ := Aside0.mk ((by rw [hg]; exact (below_size (by repeat (first | (with_reducible first | exact HB.out | apply below_alloc | apply pw_below_drewN | apply below_drew1) | exact HB.out))) : w.heap.size ≤ gb60101)); clear HB; have HB := n0_; have BK60101 := n1_; have GW60101 := n2_; have GE60101 := n3_; clear n0_ n1_ n2_ n3_; clear hb hbox hg) | ((with_reducible refine gate_dst (N := 3) rfl ?_); refine box_event ?hg (N := 3) ?hd (cs := #[.int .i64 a1_0, .int .i64 a1_1, .int .i64 a1_2, .int .i64 a1_3, .int .i64 a1_4, .slice A1_5 l1_5.length c1_5]) (t := 29) ?hr ?_; (case hd => rfl); (case hg => rfl); (case hr => first | (go_simp; done) | (go_simp; rfl)); intro gb60102 hg w24 hbox hb; have n0_ := Aside0.mk (blk_below (g := gb60101) (o := .cells #[.int .i64 a0_0, .int .i64 a0_1, .int .i64 a0_2, .int .i64 a0_3, .int .i64 a0_4, .slice A0_5 l0_5.length c0_5] 29 (0, 0)) (by (with_reducible repeat (first | refine blk_drewN ?_ _ | refine blk_drew ?_ | refine blk_alloc ?_ _)); exact BK60101.out) hb); have n1_ := Aside0.mk (below_step (by repeat (first | (with_reducible first | exact HB.out | apply below_alloc | apply pw_below_drewN | apply below_drew1 | refine below_set ?_ GE60101.out) | exact HB.out)) hb); have n2_ := Aside0.mk (hbox); have n3_ := Aside0.mk ((by rw [hg]; exact (below_size (by repeat (first | (with_reducible first | exact HB.out | apply below_alloc | apply pw_below_drewN | apply below_drew1 | refine below_set ?_ GE60101.out) | exact HB.out))) : w.heap.size ≤ gb60102)); have n4_ := Aside0.mk ((by rw [hg]; exact (below_size (by repeat (first | (with_reducible first | exact HB.out | apply below_alloc | apply pw_below_drewN | apply below_drew1 | refine below_set ?_ GE60101.out) | exact HB.out))) : w.heap.size ≤ gb60102)); have n5_ := Aside0.mk ((by rw [hg]; exact Nat.ne_of_lt (blk_lt (g := gb60101) (o := .cells #[.int .i64 a0_0, .int .i64 a0_1, .int .i64 a0_2, .int .i64 a0_3, .int .i64 a0_4, .slice A0_5 l0_5.length c0_5] 29 (0, 0)) (by (with_reducible repeat (first | refine blk_drewN ?_ _ | refine blk_drew ?_ | refine blk_alloc ?_ _)); exact BK60101.out)) : gb60101 ≠ gb60102)); have n6_ := Aside0.mk ((by rw [hg]; exact Nat.ne_of_gt (blk_lt (g := gb60101) (o := .cells #[.int .i64 a0_0, .int .i64 a0_1, .int .i64 a0_2, .int .i64 a0_3, .int .i64 a0_4, .slice A0_5 l0_5.length c0_5] 29 (0, 0)) (by (with_reducible repeat (first | refine blk_drewN ?_ _ | refine blk_drew ?_ | refine blk_alloc ?_ _)); exact BK60101.out)) : gb60102 ≠ gb60101)); clear BK60101; clear HB; have BK60101 := n0_; have HB := n1_; have BK60102 := n2_; have GW60102 := n3_; have GE60102 := n4_; have NB60101_60102 := n5_; have NB60102_60101 := n6_; clear n0_ n1_ n2_ n3_ n4_ n5_ n6_; clear hb hbox hg; have hnb25 := NB60101_60102.out; have hnc25 := NB60102_60101.out; have hcz26_0 : w24.cell? ⟨gb60101, 0, none⟩ = some (.int .i64 a0_0) := (blk_cell BK60101.out 0).trans rfl; have hcz26_1 : w24.cell? ⟨gb60101, 1, none⟩ = some (.int .i64 a0_1) := (blk_cell BK60101.out 1).trans rfl; have hcz26_2 : w24.cell? ⟨gb60101, 2, none⟩ = some (.int .i64 a0_2) := (blk_cell BK60101.out 2).trans rfl; have hcz26_3 : w24.cell? ⟨gb60101, 3, none⟩ = some (.int .i64 a0_3) := (blk_cell BK60101.out 3).trans rfl; have hcz26_4 : w24.cell? ⟨gb60101, 4, none⟩ = some (.int .i64 a0_4) := (blk_cell BK60101.out 4).trans rfl; have hcz26_5 : w24.cell? ⟨gb60101, 5, none⟩ = some (.slice A0_5 l0_5.length c0_5) := (blk_cell BK60101.out 5).trans rfl; have hfz26_0 := blk_frozen BK60101.out 0; have hfz26_1 := blk_frozen BK60101.out 1; have hfz26_2 := blk_frozen BK60101.out 2; have hfz26_3 := blk_frozen BK60101.out 3; have hfz26_4 := blk_frozen BK60101.out 4; have hfz26_5 := blk_frozen BK60101.out 5; have hcz27_0 : w24.cell? ⟨gb60102, 0, none⟩ = some (.int .i64 a1_0) := (blk_cell BK60102.out 0).trans rfl; have hcz27_1 : w24.cell? ⟨gb60102, 1, none⟩ = some (.int .i64 a1_1) := (blk_cell BK60102.out 1).trans rfl; have hcz27_2 : w24.cell? ⟨gb60102, 2, none⟩ = some (.int .i64 a1_2) := (blk_cell BK60102.out 2).trans rfl; have hcz27_3 : w24.cell? ⟨gb60102, 3, none⟩ = some (.int .i64 a1_3) := (blk_cell BK60102.out 3).trans rfl; have hcz27_4 : w24.cell? ⟨gb60102, 4, none⟩ = some (.int .i64 a1_4) := (blk_cell BK60102.out 4).trans rfl; have hcz27_5 : w24.cell? ⟨gb60102, 5, none⟩ = some (.slice A1_5 l1_5.length c1_5) := (blk_cell BK60102.out 5).trans rfl; have hfz27_0 := blk_frozen BK60102.out 0; have hfz27_1 := blk_frozen BK60102.out 1; have hfz27_2 := blk_frozen BK60102.out 2; have hfz27_3 := blk_frozen BK60102.out 3; have hfz27_4 := blk_frozen BK60102.out 4; have hfz27_5 := blk_frozen BK60102.out 5))
      go_ret
      exact ⟨by first | rfl | (simp [errW_none, errW_some] <;> rfl) | (simp [*, errW_none, errW_some] <;> rfl), by repeat (first | (with_reducible first | exact HB.out | apply below_alloc | apply pw_below_drewN | apply below_drew1 | refine below_set ?_ GE60101.out | refine below_set ?_ GE60102.out) | exact HB.out)⟩
  · rw [if_neg c3] at H
    have c3b0 : (a0_0 == a1_0) = false := beq_eq_false_iff_ne.mpr c3
    have c3b1 : (a0_0 != a1_0) = true := bne_iff_ne.mpr c3
    obtain rfl := Option.some.inj H
    go_enter Try.func30, Try.ntmps30
    go_wp2_with (first | ((with_reducible refine gate_dst (N := 2) rfl ?_); refine box_event ?hg (N := 2) ?hd (cs := #[.int .i64 a0_0, .int .i64 a0_1, .int .i64 a0_2, .int .i64 a0_3, .int .i64 a0_4, .slice A0_5 l0_5.length c0_5]) (t := 29) ?hr ?_; (case hd => rfl); (case hg => rfl); (case hr => first | (go_simp; done) | (go_simp; rfl)); intro gb60101 hg w28 hbox hb; have n0_ := Aside0.mk (below_step (by repeat (first | (with_reducible first | exact HB.out | apply below_alloc | apply pw_below_drewN | apply below_drew1) | exact HB.out)) hb); have n1_ := Aside0.mk (hbox); have n2_ := Aside0.mk ((by rw [hg]; exact (below_size (by repeat (first | (with_reducible first | exact HB.out | apply below_alloc | apply pw_below_drewN | apply below_drew1) | exact HB.out))) : w.heap.size ≤ gb60101)); have n3_ := Aside0.mk ((by rw [hg]; exact (below_size (by repeat (first | (with_reducible first | exact HB.out | apply below_alloc | apply pw_below_drewN | apply below_drew1) | exact HB.out))) : w.heap.size ≤ gb60101)); clear HB; have HB := n0_; have BK60101 := n1_; have GW60101 := n2_; have GE60101 := n3_; clear n0_ n1_ n2_ n3_; clear hb hbox hg) | ((with_reducible refine gate_dst (N := 3) rfl ?_); refine box_event ?hg (N := 3) ?hd (cs := #[.int .i64 a1_0, .int .i64 a1_1, .int .i64 a1_2, .int .i64 a1_3, .int .i64 a1_4, .slice A1_5 l1_5.length c1_5]) (t := 29) ?hr ?_; (case hd => rfl); (case hg => rfl); (case hr => first | (go_simp; done) | (go_simp; rfl)); intro gb60102 hg w29 hbox hb; have n0_ := Aside0.mk (blk_below (g := gb60101) (o := .cells #[.int .i64 a0_0, .int .i64 a0_1, .int .i64 a0_2, .int .i64 a0_3, .int .i64 a0_4, .slice A0_5 l0_5.length c0_5] 29 (0, 0)) (by (with_reducible repeat (first | refine blk_drewN ?_ _ | refine blk_drew ?_ | refine blk_alloc ?_ _)); exact BK60101.out) hb); have n1_ := Aside0.mk (below_step (by repeat (first | (with_reducible first | exact HB.out | apply below_alloc | apply pw_below_drewN | apply below_drew1 | refine below_set ?_ GE60101.out) | exact HB.out)) hb); have n2_ := Aside0.mk (hbox); have n3_ := Aside0.mk ((by rw [hg]; exact (below_size (by repeat (first | (with_reducible first | exact HB.out | apply below_alloc | apply pw_below_drewN | apply below_drew1 | refine below_set ?_ GE60101.out) | exact HB.out))) : w.heap.size ≤ gb60102)); have n4_ := Aside0.mk ((by rw [hg]; exact (below_size (by repeat (first | (with_reducible first | exact HB.out | apply below_alloc | apply pw_below_drewN | apply below_drew1 | refine below_set ?_ GE60101.out) | exact HB.out))) : w.heap.size ≤ gb60102)); have n5_ := Aside0.mk ((by rw [hg]; exact Nat.ne_of_lt (blk_lt (g := gb60101) (o := .cells #[.int .i64 a0_0, .int .i64 a0_1, .int .i64 a0_2, .int .i64 a0_3, .int .i64 a0_4, .slice A0_5 l0_5.length c0_5] 29 (0, 0)) (by (with_reducible repeat (first | refine blk_drewN ?_ _ | refine blk_drew ?_ | refine blk_alloc ?_ _)); exact BK60101.out)) : gb60101 ≠ gb60102)); have n6_ := Aside0.mk ((by rw [hg]; exact Nat.ne_of_gt (blk_lt (g := gb60101) (o := .cells #[.int .i64 a0_0, .int .i64 a0_1, .int .i64 a0_2, .int .i64 a0_3, .int .i64 a0_4, .slice A0_5 l0_5.length c0_5] 29 (0, 0)) (by (with_reducible repeat (first | refine blk_drewN ?_ _ | refine blk_drew ?_ | refine blk_alloc ?_ _)); exact BK60101.out)) : gb60102 ≠ gb60101)); clear BK60101; clear HB; have BK60101 := n0_; have HB := n1_; have BK60102 := n2_; have GW60102 := n3_; have GE60102 := n4_; have NB60101_60102 := n5_; have NB60102_60101 := n6_; clear n0_ n1_ n2_ n3_ n4_ n5_ n6_; clear hb hbox hg; have hnb30 := NB60101_60102.out; have hnc30 := NB60102_60101.out; have hcz31_0 : w29.cell? ⟨gb60101, 0, none⟩ = some (.int .i64 a0_0) := (blk_cell BK60101.out 0).trans rfl; have hcz31_1 : w29.cell? ⟨gb60101, 1, none⟩ = some (.int .i64 a0_1) := (blk_cell BK60101.out 1).trans rfl; have hcz31_2 : w29.cell? ⟨gb60101, 2, none⟩ = some (.int .i64 a0_2) := (blk_cell BK60101.out 2).trans rfl; have hcz31_3 : w29.cell? ⟨gb60101, 3, none⟩ = some (.int .i64 a0_3) := (blk_cell BK60101.out 3).trans rfl; have hcz31_4 : w29.cell? ⟨gb60101, 4, none⟩ = some (.int .i64 a0_4) := (blk_cell BK60101.out 4).trans rfl; have hcz31_5 : w29.cell? ⟨gb60101, 5, none⟩ = some (.slice A0_5 l0_5.length c0_5) := (blk_cell BK60101.out 5).trans rfl; have hfz31_0 := blk_frozen BK60101.out 0; have hfz31_1 := blk_frozen BK60101.out 1; have hfz31_2 := blk_frozen BK60101.out 2; have hfz31_3 := blk_frozen BK60101.out 3; have hfz31_4 := blk_frozen BK60101.out 4; have hfz31_5 := blk_frozen BK60101.out 5; have hcz32_0 : w29.cell? ⟨gb60102, 0, none⟩ = some (.int .i64 a1_0) := (blk_cell BK60102.out 0).trans rfl; have hcz32_1 : w29.cell? ⟨gb60102, 1, none⟩ = some (.int .i64 a1_1) := (blk_cell BK60102.out 1).trans rfl; have hcz32_2 : w29.cell? ⟨gb60102, 2, none⟩ = some (.int .i64 a1_2) := (blk_cell BK60102.out 2).trans rfl; have hcz32_3 : w29.cell? ⟨gb60102, 3, none⟩ = some (.int .i64 a1_3) := (blk_cell BK60102.out 3).trans rfl; have hcz32_4 : w29.cell? ⟨gb60102, 4, none⟩ = some (.int .i64 a1_4) := (blk_cell BK60102.out 4).trans rfl; have hcz32_5 : w29.cell? ⟨gb60102, 5, none⟩ = some (.slice A1_5 l1_5.length c1_5) := (blk_cell BK60102.out 5).trans rfl; have hfz32_0 := blk_frozen BK60102.out 0; have hfz32_1 := blk_frozen BK60102.out 1; have hfz32_2 := blk_frozen BK60102.out 2; have hfz32_3 := blk_frozen BK60102.out 3; have hfz32_4 := blk_frozen BK60102.out 4; have hfz32_5 := blk_frozen BK60102.out 5))
    go_ret
    exact ⟨by first | rfl | (simp [errW_none, errW_some] <;> rfl) | (simp [*, errW_none, errW_some] <;> rfl), by repeat (first | (with_reducible first | exact HB.out | apply below_alloc | apply pw_below_drewN | apply below_drew1 | refine below_set ?_ GE60101.out | refine below_set ?_ GE60102.out) | exact HB.out)⟩
end Go.Proofs.Ytcpohmfkmgcjkaa.P
