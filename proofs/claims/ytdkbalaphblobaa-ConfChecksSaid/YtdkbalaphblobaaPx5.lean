/- Printed by a program of this session (myprint) out of the translation: the functions as plain Lean functions, and that the calls compute them. What counts is Lean's check. -/
import Derived.Test.YtdkbalaphblobaaPx0
namespace Go.Proofs.Ytdkbalaphblobaa.P
open Go.RowKit Go.Proofs.YtdkbalaphblobaaW.PrintWords Go.Proofs.YtdkbalaphblobaaW.PrintLast Go.Proofs.YtdkbalaphblobaaW.PrintMore
attribute [local go_sem] max2_int min2_int max_two min_two max_three min_three max_four min_four   -- for this text's walks alone
set_option linter.unusedVariables false
set_option linter.unusedSimpArgs false

/-! ### plaitingref3_Rest: function 61 -/
def plaitingref3_Rest.f (a0 : Int) (a1 : Int) : Option (Int) := if a1 = 0 then (none) else (if (Int.tmod a0 a1) < 0 then (some (wrap64 ((Int.tmod a0 a1) + a1))) else (some (Int.tmod a0 a1)))
set_option maxHeartbeats 8000000 in
set_option maxRecDepth 100000 in
theorem plaitingref3_Rest.calls (a0 : Int) (a1 : Int) (r : Int) (w : World) (h : plaitingref3_Rest.f a0 a1 = some r) :
    Calls Try.prog 61 #[.int .i64 a0, .int .i64 a1] w fun e w' => e = .returned (.int .i64 r) ∧ Drawn0 w w' := by
  have H : (if a1 = 0 then (none) else (if (Int.tmod a0 a1) < 0 then (some (wrap64 ((Int.tmod a0 a1) + a1))) else (some (Int.tmod a0 a1)))) = some r := h
  clear h
  by_cases c3 : a1 = 0
  · rw [if_pos c3] at H
    exact absurd H (by simp)
  · rw [if_neg c3] at H
    have c3b0 : (a1 == 0) = false := beq_eq_false_iff_ne.mpr c3
    have c3b1 : (a1 != 0) = true := bne_iff_ne.mpr c3
    by_cases c4 : (Int.tmod a0 a1) < 0
    · rw [if_pos c4] at H
      have c4b0 : decide ((Int.tmod a0 a1) < 0) = true := decide_eq_true c4
      clear c4
      obtain rfl := Option.some.inj H
      go_enter Try.func61, Try.ntmps61
      go_wp2
      go_ret
      exact ⟨by first | rfl | (simp; done) | (simp [*]; done), by repeat (first | exact Drawn0.refl _ | apply Drawn0.step)⟩
    · rw [if_neg c4] at H
      have c4b0 : decide ((Int.tmod a0 a1) < 0) = false := decide_eq_false c4
      clear c4
      obtain rfl := Option.some.inj H
      go_enter Try.func61, Try.ntmps61
      go_wp2
      go_ret
      exact ⟨by first | rfl | (simp; done) | (simp [*]; done), by repeat (first | exact Drawn0.refl _ | apply Drawn0.step)⟩

/-! ### plaitingref3_Check: function 28 -/
mutual
def plaitingref3_Check.j0 : Nat → Bool → Int → Int → Int → Int → Int → List Int → Option (Int)
  | 0, _, _, _, _, _, _, _ => none
  | k + 1, x31, x56102000, x56102001, x56102002, x56102003, x56102004, x56102005 => if x31 = true then (some 1) else (if x56102001 < (wrap64 (4 * (wrap64 ((wrap64 (x56102002 + x56102003)) + 1)))) then (plaitingref3_Check.j1 k true x56102000 x56102001 x56102002 x56102003 x56102004 x56102005) else (if x56102001 > 10000 then (plaitingref3_Check.j1 k true x56102000 x56102001 x56102002 x56102003 x56102004 x56102005) else (if x56102004 < 0 then (plaitingref3_Check.j1 k true x56102000 x56102001 x56102002 x56102003 x56102004 x56102005) else (plaitingref3_Check.j1 k (decide (x56102004 ≥ 65536)) x56102000 x56102001 x56102002 x56102003 x56102004 x56102005))))
def plaitingref3_Check.j1 : Nat → Bool → Int → Int → Int → Int → Int → List Int → Option (Int)
  | 0, _, _, _, _, _, _, _ => none
  | k + 1, x56, x56102000, x56102001, x56102002, x56102003, x56102004, x56102005 => if x56 = true then (some 1) else (if (x56102005.length : Int) > 3 then (some 2) else (plaitingref3_Check.l0 k 0 x56102000 x56102001 x56102002 x56102003 x56102004 x56102005))
def plaitingref3_Check.l0 : Nat → Int → Int → Int → Int → Int → Int → List Int → Option (Int)
  | 0, _, _, _, _, _, _, _ => none
  | k + 1, x3, x56102000, x56102001, x56102002, x56102003, x56102004, x56102005 => if x3 < (x56102005.length : Int) then (if 0 ≤ x3 then (if (rd x56102005 x3) < (-1) then (some 1) else (if (rd x56102005 x3) ≥ x56102000 then (some 1) else (plaitingref3_Check.l0 k (wrap64 (x3 + 1)) x56102000 x56102001 x56102002 x56102003 x56102004 x56102005))) else (none)) else (some 0)
end
def plaitingref3_Check.f (k : Nat) (a0_0 : Int) (a0_1 : Int) (a0_2 : Int) (a0_3 : Int) (a0_4 : Int) (l0_5 : List Int) : Option (Int) := if a0_0 < 6 then (plaitingref3_Check.j0 k true a0_0 a0_1 a0_2 a0_3 a0_4 l0_5) else (if a0_0 > 12 then (plaitingref3_Check.j0 k true a0_0 a0_1 a0_2 a0_3 a0_4 l0_5) else (if a0_2 < 0 then (plaitingref3_Check.j0 k true a0_0 a0_1 a0_2 a0_3 a0_4 l0_5) else (if a0_2 > 100 then (plaitingref3_Check.j0 k true a0_0 a0_1 a0_2 a0_3 a0_4 l0_5) else (if a0_3 < 0 then (plaitingref3_Check.j0 k true a0_0 a0_1 a0_2 a0_3 a0_4 l0_5) else (plaitingref3_Check.j0 k (decide (a0_3 > 100)) a0_0 a0_1 a0_2 a0_3 a0_4 l0_5)))))
theorem plaitingref3_Check.mono_l : ∀ k, (∀ y0 y1 y2 y3 y4 y5 y6, LeO (plaitingref3_Check.j0 k y0 y1 y2 y3 y4 y5 y6) (plaitingref3_Check.j0 (k + 1) y0 y1 y2 y3 y4 y5 y6)) ∧ (∀ y0 y1 y2 y3 y4 y5 y6, LeO (plaitingref3_Check.j1 k y0 y1 y2 y3 y4 y5 y6) (plaitingref3_Check.j1 (k + 1) y0 y1 y2 y3 y4 y5 y6)) ∧ (∀ y0 y1 y2 y3 y4 y5 y6, LeO (plaitingref3_Check.l0 k y0 y1 y2 y3 y4 y5 y6) (plaitingref3_Check.l0 (k + 1) y0 y1 y2 y3 y4 y5 y6))
  | 0 => ⟨fun _ _ _ _ _ _ _ r h => by simp [plaitingref3_Check.j0] at h, fun _ _ _ _ _ _ _ r h => by simp [plaitingref3_Check.j1] at h, fun _ _ _ _ _ _ _ r h => by simp [plaitingref3_Check.l0] at h⟩
  | k + 1 => by
    obtain ⟨ih0, ih1, ih2⟩ := plaitingref3_Check.mono_l k
    refine ⟨?_, ?_, ?_⟩
    · intro y0 y1 y2 y3 y4 y5 y6
      unfold plaitingref3_Check.j0
      repeat' first
      | (with_reducible exact ih0 _ _ _ _ _ _ _)
      | (with_reducible exact ih1 _ _ _ _ _ _ _)
      | (with_reducible exact ih2 _ _ _ _ _ _ _)
      | (with_reducible exact LeO.refl _)
      | (with_reducible exact LeO.none _)
      | (with_reducible refine LeO.ite ?_ ?_)
      | (with_reducible refine LeO.bind ?_ (fun _ => ?_))
      | exact ih0 _ _ _ _ _ _ _
      | exact ih1 _ _ _ _ _ _ _
      | exact ih2 _ _ _ _ _ _ _
      | exact LeO.none _
      | refine LeO.ite ?_ ?_
      | refine LeO.bind ?_ (fun _ => ?_)
    · intro y0 y1 y2 y3 y4 y5 y6
      unfold plaitingref3_Check.j1
      repeat' first
      | (with_reducible exact ih0 _ _ _ _ _ _ _)
      | (with_reducible exact ih1 _ _ _ _ _ _ _)
      | (with_reducible exact ih2 _ _ _ _ _ _ _)
      | (with_reducible exact LeO.refl _)
      | (with_reducible exact LeO.none _)
      | (with_reducible refine LeO.ite ?_ ?_)
      | (with_reducible refine LeO.bind ?_ (fun _ => ?_))
      | exact ih0 _ _ _ _ _ _ _
      | exact ih1 _ _ _ _ _ _ _
      | exact ih2 _ _ _ _ _ _ _
      | exact LeO.none _
      | refine LeO.ite ?_ ?_
      | refine LeO.bind ?_ (fun _ => ?_)
    · intro y0 y1 y2 y3 y4 y5 y6
      unfold plaitingref3_Check.l0
      repeat' first
      | (with_reducible exact ih0 _ _ _ _ _ _ _)
      | (with_reducible exact ih1 _ _ _ _ _ _ _)
      | (with_reducible exact ih2 _ _ _ _ _ _ _)
      | (with_reducible exact LeO.refl _)
      | (with_reducible exact LeO.none _)
      | (with_reducible refine LeO.ite ?_ ?_)
      | (with_reducible refine LeO.bind ?_ (fun _ => ?_))
      | exact ih0 _ _ _ _ _ _ _
      | exact ih1 _ _ _ _ _ _ _
      | exact ih2 _ _ _ _ _ _ _
      | exact LeO.none _
      | refine LeO.ite ?_ ?_
      | refine LeO.bind ?_ (fun _ => ?_)
theorem plaitingref3_Check.mono : ∀ a0 a1 a2 a3 a4 a5 k, LeO (plaitingref3_Check.f k a0 a1 a2 a3 a4 a5) (plaitingref3_Check.f (k + 1) a0 a1 a2 a3 a4 a5) := by
  intro a0 a1 a2 a3 a4 a5 k
  obtain ⟨ih0, ih1, ih2⟩ := plaitingref3_Check.mono_l k
  unfold plaitingref3_Check.f
  repeat' first
      | (with_reducible exact ih0 _ _ _ _ _ _ _)
      | (with_reducible exact ih1 _ _ _ _ _ _ _)
      | (with_reducible exact ih2 _ _ _ _ _ _ _)
      | (with_reducible exact LeO.refl _)
      | (with_reducible exact LeO.none _)
      | (with_reducible refine LeO.ite ?_ ?_)
      | (with_reducible refine LeO.bind ?_ (fun _ => ?_))
      | exact ih0 _ _ _ _ _ _ _
      | exact ih1 _ _ _ _ _ _ _
      | exact ih2 _ _ _ _ _ _ _
      | exact LeO.none _
      | refine LeO.ite ?_ ?_
      | refine LeO.bind ?_ (fun _ => ?_)
set_option maxHeartbeats 8000000 in
set_option maxRecDepth 100000 in
theorem plaitingref3_Check.calls (k : Nat) (a0_0 : Int) (a0_1 : Int) (a0_2 : Int) (a0_3 : Int) (a0_4 : Int) (A0_5 : Option Addr) (c0_5 : Nat) (l0_5 : List Int) (r : Int) (w : World) (hr0_5 : Kd.C (Kd.int .i64) w A0_5 l0_5.length l0_5) (hc0_5 : l0_5.length ≤ c0_5) (h : plaitingref3_Check.f k a0_0 a0_1 a0_2 a0_3 a0_4 l0_5 = some r) :
    Calls Try.prog 28 #[.agg #[.int .i64 a0_0, .int .i64 a0_1, .int .i64 a0_2, .int .i64 a0_3, .int .i64 a0_4, .slice A0_5 l0_5.length c0_5]] w fun e w' => e = .returned (.int .i64 r) ∧ Below w.heap.size w w' := by
  have hu35 := Try.underlying35
  have HR0_5 := Aside0.mk hr0_5
  have HC0_5 := Aside0.mk hc0_5
  clear hr0_5 hc0_5
  have HB := Aside0.mk (Below.refl w.heap.size w)
  have H : (if a0_0 < 6 then (plaitingref3_Check.j0 k true a0_0 a0_1 a0_2 a0_3 a0_4 l0_5) else (if a0_0 > 12 then (plaitingref3_Check.j0 k true a0_0 a0_1 a0_2 a0_3 a0_4 l0_5) else (if a0_2 < 0 then (plaitingref3_Check.j0 k true a0_0 a0_1 a0_2 a0_3 a0_4 l0_5) else (if a0_2 > 100 then (plaitingref3_Check.j0 k true a0_0 a0_1 a0_2 a0_3 a0_4 l0_5) else (if a0_3 < 0 then (plaitingref3_Check.j0 k true a0_0 a0_1 a0_2 a0_3 a0_4 l0_5) else (plaitingref3_Check.j0 k (decide (a0_3 > 100)) a0_0 a0_1 a0_2 a0_3 a0_4 l0_5)))))) = some r := h
  clear h
  have HC2 := Aside0.mk H
  clear H
  go_enter Try.func28, Try.ntmps28
  go_upto_region 1 with (first | ((with_reducible refine gate_dst (N := 1) rfl ?_); refine box_event ?hg (N := 1) ?hd (cs := #[.int .i64 a0_0, .int .i64 a0_1, .int .i64 a0_2, .int .i64 a0_3, .int .i64 a0_4, .slice A0_5 l0_5.length c0_5]) (t := 35) ?hr ?_; (case hd => rfl); (case hg => rfl); (case hr => first | (go_simp; done) | (go_simp; rfl)); intro gb56101 hg w3 hbox hb; have n0_ := Aside0.mk (below_step (by repeat (first | (with_reducible first | exact HB.out | apply below_alloc | apply pw_below_drewN | apply below_drew1) | exact HB.out)) hb); have n1_ := Aside0.mk (hbox); have n2_ := Aside0.mk ((by rw [hg]; exact (below_size (by repeat (first | (with_reducible first | exact HB.out | apply below_alloc | apply pw_below_drewN | apply below_drew1) | exact HB.out))) : w.heap.size ≤ gb56101)); have n3_ := Aside0.mk ((by rw [hg]; exact (below_size (by repeat (first | (with_reducible first | exact HB.out | apply below_alloc | apply pw_below_drewN | apply below_drew1) | exact HB.out))) : w.heap.size ≤ gb56101)); clear HB; have HB := n0_; have BK56101 := n1_; have GW56101 := n2_; have GE56101 := n3_; clear n0_ n1_ n2_ n3_; clear hb hbox hg))
  repeat (go_quiet (first | ((with_reducible refine gate_dst (N := 1) rfl ?_); refine box_event ?hg (N := 1) ?hd (cs := #[.int .i64 a0_0, .int .i64 a0_1, .int .i64 a0_2, .int .i64 a0_3, .int .i64 a0_4, .slice A0_5 l0_5.length c0_5]) (t := 35) ?hr ?_; (case hd => rfl); (case hg => rfl); (case hr => first | (go_simp; done) | (go_simp; rfl)); intro gb56101 hg w3 hbox hb; have n0_ := Aside0.mk (below_step (by repeat (first | (with_reducible first | exact HB.out | apply below_alloc | apply pw_below_drewN | apply below_drew1) | exact HB.out)) hb); have n1_ := Aside0.mk (hbox); have n2_ := Aside0.mk ((by rw [hg]; exact (below_size (by repeat (first | (with_reducible first | exact HB.out | apply below_alloc | apply pw_below_drewN | apply below_drew1) | exact HB.out))) : w.heap.size ≤ gb56101)); have n3_ := Aside0.mk ((by rw [hg]; exact (below_size (by repeat (first | (with_reducible first | exact HB.out | apply below_alloc | apply pw_below_drewN | apply below_drew1) | exact HB.out))) : w.heap.size ≤ gb56101)); clear HB; have HB := n0_; have BK56101 := n1_; have GW56101 := n2_; have GE56101 := n3_; clear n0_ n1_ n2_ n3_; clear hb hbox hg)); go_upto_region 1 with (first | ((with_reducible refine gate_dst (N := 1) rfl ?_); refine box_event ?hg (N := 1) ?hd (cs := #[.int .i64 a0_0, .int .i64 a0_1, .int .i64 a0_2, .int .i64 a0_3, .int .i64 a0_4, .slice A0_5 l0_5.length c0_5]) (t := 35) ?hr ?_; (case hd => rfl); (case hg => rfl); (case hr => first | (go_simp; done) | (go_simp; rfl)); intro gb56101 hg w3 hbox hb; have n0_ := Aside0.mk (below_step (by repeat (first | (with_reducible first | exact HB.out | apply below_alloc | apply pw_below_drewN | apply below_drew1) | exact HB.out)) hb); have n1_ := Aside0.mk (hbox); have n2_ := Aside0.mk ((by rw [hg]; exact (below_size (by repeat (first | (with_reducible first | exact HB.out | apply below_alloc | apply pw_below_drewN | apply below_drew1) | exact HB.out))) : w.heap.size ≤ gb56101)); have n3_ := Aside0.mk ((by rw [hg]; exact (below_size (by repeat (first | (with_reducible first | exact HB.out | apply below_alloc | apply pw_below_drewN | apply below_drew1) | exact HB.out))) : w.heap.size ≤ gb56101)); clear HB; have HB := n0_; have BK56101 := n1_; have GW56101 := n2_; have GE56101 := n3_; clear n0_ n1_ n2_ n3_; clear hb hbox hg)))
  (try simp only [Act.put, List.setIfInBounds_toArray, List.set_cons_zero, List.set_cons_succ])
  go_cut [31] (fun v31 wc => ∃ (kq : Nat) (x31_1 : Bool), v31 = .bool x31_1 ∧ Aside0 (plaitingref3_Check.j0 kq x31_1 a0_0 a0_1 a0_2 a0_3 a0_4 l0_5 = some r) ∧ Aside0 (kq ≤ k) ∧ Aside0 (wc.heap[gb56101]? = some (.cells #[.int .i64 a0_0, .int .i64 a0_1, .int .i64 a0_2, .int .i64 a0_3, .int .i64 a0_4, (.slice A0_5 l0_5.length c0_5)] 35 (0, 0))) ∧ Aside0 (Below w.heap.size w wc))
  case first =>
    have H := HC2.out
    clear HC2
    by_cases c4 : a0_0 < 6
    · rw [if_pos c4] at H
      have c4b0 : decide (a0_0 < 6) = true := decide_eq_true c4
      clear c4
      (first | rw [c4b0] | (simp only [i64_w, i32_w]; rw [c4b0]) | skip)
      have H' := Aside0.mk H
      clear H
      have hcz5_0 : w3.cell? ⟨gb56101, 0, none⟩ = some (.int .i64 a0_0) := (blk_cell BK56101.out 0).trans rfl
      have hcz5_1 : w3.cell? ⟨gb56101, 1, none⟩ = some (.int .i64 a0_1) := (blk_cell BK56101.out 1).trans rfl
      have hcz5_2 : w3.cell? ⟨gb56101, 2, none⟩ = some (.int .i64 a0_2) := (blk_cell BK56101.out 2).trans rfl
      have hcz5_3 : w3.cell? ⟨gb56101, 3, none⟩ = some (.int .i64 a0_3) := (blk_cell BK56101.out 3).trans rfl
      have hcz5_4 : w3.cell? ⟨gb56101, 4, none⟩ = some (.int .i64 a0_4) := (blk_cell BK56101.out 4).trans rfl
      have hcz5_5 : w3.cell? ⟨gb56101, 5, none⟩ = some (.slice A0_5 l0_5.length c0_5) := (blk_cell BK56101.out 5).trans rfl
      have hfz5_0 := blk_frozen BK56101.out 0
      have hfz5_1 := blk_frozen BK56101.out 1
      have hfz5_2 := blk_frozen BK56101.out 2
      have hfz5_3 := blk_frozen BK56101.out 3
      have hfz5_4 := blk_frozen BK56101.out 4
      have hfz5_5 := blk_frozen BK56101.out 5
      go_wp2
      repeat (go_quiet (fail); try go_wp2)
      go_meet
      case rel => exact ⟨_, (true), (by first | rfl | (simp; done) | (simp [*]; done)), H', ⟨by first | omega | exact Nat.le_refl _⟩, ⟨by (with_reducible repeat (first | refine blk_drewN ?_ _ | refine blk_drew ?_ | refine blk_alloc ?_ _)); exact BK56101.out⟩, ⟨by repeat (first | (with_reducible first | exact HB.out | apply below_alloc | apply pw_below_drewN | apply below_drew1 | refine below_set ?_ GE56101.out) | exact HB.out)⟩⟩
    · rw [if_neg c4] at H
      have c4b0 : decide (a0_0 < 6) = false := decide_eq_false c4
      clear c4
      (first | rw [c4b0] | (simp only [i64_w, i32_w]; rw [c4b0]) | skip)
      by_cases c6 : a0_0 > 12
      · rw [if_pos c6] at H
        have c6b0 : decide (12 < a0_0) = true := decide_eq_true c6
        clear c6
        have H' := Aside0.mk H
        clear H
        have hcz7_0 : w3.cell? ⟨gb56101, 0, none⟩ = some (.int .i64 a0_0) := (blk_cell BK56101.out 0).trans rfl
        have hcz7_1 : w3.cell? ⟨gb56101, 1, none⟩ = some (.int .i64 a0_1) := (blk_cell BK56101.out 1).trans rfl
        have hcz7_2 : w3.cell? ⟨gb56101, 2, none⟩ = some (.int .i64 a0_2) := (blk_cell BK56101.out 2).trans rfl
        have hcz7_3 : w3.cell? ⟨gb56101, 3, none⟩ = some (.int .i64 a0_3) := (blk_cell BK56101.out 3).trans rfl
        have hcz7_4 : w3.cell? ⟨gb56101, 4, none⟩ = some (.int .i64 a0_4) := (blk_cell BK56101.out 4).trans rfl
        have hcz7_5 : w3.cell? ⟨gb56101, 5, none⟩ = some (.slice A0_5 l0_5.length c0_5) := (blk_cell BK56101.out 5).trans rfl
        have hfz7_0 := blk_frozen BK56101.out 0
        have hfz7_1 := blk_frozen BK56101.out 1
        have hfz7_2 := blk_frozen BK56101.out 2
        have hfz7_3 := blk_frozen BK56101.out 3
        have hfz7_4 := blk_frozen BK56101.out 4
        have hfz7_5 := blk_frozen BK56101.out 5
        go_wp2
        repeat (go_quiet (fail); try go_wp2)
        go_meet
        case rel => exact ⟨_, (true), (by first | rfl | (simp; done) | (simp [*]; done)), H', ⟨by first | omega | exact Nat.le_refl _⟩, ⟨by (with_reducible repeat (first | refine blk_drewN ?_ _ | refine blk_drew ?_ | refine blk_alloc ?_ _)); exact BK56101.out⟩, ⟨by repeat (first | (with_reducible first | exact HB.out | apply below_alloc | apply pw_below_drewN | apply below_drew1 | refine below_set ?_ GE56101.out) | exact HB.out)⟩⟩
      · rw [if_neg c6] at H
        have c6b0 : decide (12 < a0_0) = false := decide_eq_false c6
        clear c6
        by_cases c8 : a0_2 < 0
        · rw [if_pos c8] at H
          have c8b0 : decide (a0_2 < 0) = true := decide_eq_true c8
          clear c8
          have H' := Aside0.mk H
          clear H
          have hcz9_0 : w3.cell? ⟨gb56101, 0, none⟩ = some (.int .i64 a0_0) := (blk_cell BK56101.out 0).trans rfl
          have hcz9_1 : w3.cell? ⟨gb56101, 1, none⟩ = some (.int .i64 a0_1) := (blk_cell BK56101.out 1).trans rfl
          have hcz9_2 : w3.cell? ⟨gb56101, 2, none⟩ = some (.int .i64 a0_2) := (blk_cell BK56101.out 2).trans rfl
          have hcz9_3 : w3.cell? ⟨gb56101, 3, none⟩ = some (.int .i64 a0_3) := (blk_cell BK56101.out 3).trans rfl
          have hcz9_4 : w3.cell? ⟨gb56101, 4, none⟩ = some (.int .i64 a0_4) := (blk_cell BK56101.out 4).trans rfl
          have hcz9_5 : w3.cell? ⟨gb56101, 5, none⟩ = some (.slice A0_5 l0_5.length c0_5) := (blk_cell BK56101.out 5).trans rfl
          have hfz9_0 := blk_frozen BK56101.out 0
          have hfz9_1 := blk_frozen BK56101.out 1
          have hfz9_2 := blk_frozen BK56101.out 2
          have hfz9_3 := blk_frozen BK56101.out 3
          have hfz9_4 := blk_frozen BK56101.out 4
          have hfz9_5 := blk_frozen BK56101.out 5
          go_wp2
          repeat (go_quiet (fail); try go_wp2)
          go_meet
          case rel => exact ⟨_, (true), (by first | rfl | (simp; done) | (simp [*]; done)), H', ⟨by first | omega | exact Nat.le_refl _⟩, ⟨by (with_reducible repeat (first | refine blk_drewN ?_ _ | refine blk_drew ?_ | refine blk_alloc ?_ _)); exact BK56101.out⟩, ⟨by repeat (first | (with_reducible first | exact HB.out | apply below_alloc | apply pw_below_drewN | apply below_drew1 | refine below_set ?_ GE56101.out) | exact HB.out)⟩⟩
        · rw [if_neg c8] at H
          have c8b0 : decide (a0_2 < 0) = false := decide_eq_false c8
          clear c8
          by_cases c10 : a0_2 > 100
          · rw [if_pos c10] at H
            have c10b0 : decide (100 < a0_2) = true := decide_eq_true c10
            clear c10
            have H' := Aside0.mk H
            clear H
            have hcz11_0 : w3.cell? ⟨gb56101, 0, none⟩ = some (.int .i64 a0_0) := (blk_cell BK56101.out 0).trans rfl
            have hcz11_1 : w3.cell? ⟨gb56101, 1, none⟩ = some (.int .i64 a0_1) := (blk_cell BK56101.out 1).trans rfl
            have hcz11_2 : w3.cell? ⟨gb56101, 2, none⟩ = some (.int .i64 a0_2) := (blk_cell BK56101.out 2).trans rfl
            have hcz11_3 : w3.cell? ⟨gb56101, 3, none⟩ = some (.int .i64 a0_3) := (blk_cell BK56101.out 3).trans rfl
            have hcz11_4 : w3.cell? ⟨gb56101, 4, none⟩ = some (.int .i64 a0_4) := (blk_cell BK56101.out 4).trans rfl
            have hcz11_5 : w3.cell? ⟨gb56101, 5, none⟩ = some (.slice A0_5 l0_5.length c0_5) := (blk_cell BK56101.out 5).trans rfl
            have hfz11_0 := blk_frozen BK56101.out 0
            have hfz11_1 := blk_frozen BK56101.out 1
            have hfz11_2 := blk_frozen BK56101.out 2
            have hfz11_3 := blk_frozen BK56101.out 3
            have hfz11_4 := blk_frozen BK56101.out 4
            have hfz11_5 := blk_frozen BK56101.out 5
            go_wp2
            repeat (go_quiet (fail); try go_wp2)
            go_meet
            case rel => exact ⟨_, (true), (by first | rfl | (simp; done) | (simp [*]; done)), H', ⟨by first | omega | exact Nat.le_refl _⟩, ⟨by (with_reducible repeat (first | refine blk_drewN ?_ _ | refine blk_drew ?_ | refine blk_alloc ?_ _)); exact BK56101.out⟩, ⟨by repeat (first | (with_reducible first | exact HB.out | apply below_alloc | apply pw_below_drewN | apply below_drew1 | refine below_set ?_ GE56101.out) | exact HB.out)⟩⟩
          · rw [if_neg c10] at H
            have c10b0 : decide (100 < a0_2) = false := decide_eq_false c10
            clear c10
            by_cases c12 : a0_3 < 0
            · rw [if_pos c12] at H
              have c12b0 : decide (a0_3 < 0) = true := decide_eq_true c12
              clear c12
              have H' := Aside0.mk H
              clear H
              have hcz13_0 : w3.cell? ⟨gb56101, 0, none⟩ = some (.int .i64 a0_0) := (blk_cell BK56101.out 0).trans rfl
              have hcz13_1 : w3.cell? ⟨gb56101, 1, none⟩ = some (.int .i64 a0_1) := (blk_cell BK56101.out 1).trans rfl
              have hcz13_2 : w3.cell? ⟨gb56101, 2, none⟩ = some (.int .i64 a0_2) := (blk_cell BK56101.out 2).trans rfl
              have hcz13_3 : w3.cell? ⟨gb56101, 3, none⟩ = some (.int .i64 a0_3) := (blk_cell BK56101.out 3).trans rfl
              have hcz13_4 : w3.cell? ⟨gb56101, 4, none⟩ = some (.int .i64 a0_4) := (blk_cell BK56101.out 4).trans rfl
              have hcz13_5 : w3.cell? ⟨gb56101, 5, none⟩ = some (.slice A0_5 l0_5.length c0_5) := (blk_cell BK56101.out 5).trans rfl
              have hfz13_0 := blk_frozen BK56101.out 0
              have hfz13_1 := blk_frozen BK56101.out 1
              have hfz13_2 := blk_frozen BK56101.out 2
              have hfz13_3 := blk_frozen BK56101.out 3
              have hfz13_4 := blk_frozen BK56101.out 4
              have hfz13_5 := blk_frozen BK56101.out 5
              go_wp2
              repeat (go_quiet (fail); try go_wp2)
              go_meet
              case rel => exact ⟨_, (true), (by first | rfl | (simp; done) | (simp [*]; done)), H', ⟨by first | omega | exact Nat.le_refl _⟩, ⟨by (with_reducible repeat (first | refine blk_drewN ?_ _ | refine blk_drew ?_ | refine blk_alloc ?_ _)); exact BK56101.out⟩, ⟨by repeat (first | (with_reducible first | exact HB.out | apply below_alloc | apply pw_below_drewN | apply below_drew1 | refine below_set ?_ GE56101.out) | exact HB.out)⟩⟩
            · rw [if_neg c12] at H
              have c12b0 : decide (a0_3 < 0) = false := decide_eq_false c12
              clear c12
              have H' := Aside0.mk H
              clear H
              have hcz14_0 : w3.cell? ⟨gb56101, 0, none⟩ = some (.int .i64 a0_0) := (blk_cell BK56101.out 0).trans rfl
              have hcz14_1 : w3.cell? ⟨gb56101, 1, none⟩ = some (.int .i64 a0_1) := (blk_cell BK56101.out 1).trans rfl
              have hcz14_2 : w3.cell? ⟨gb56101, 2, none⟩ = some (.int .i64 a0_2) := (blk_cell BK56101.out 2).trans rfl
              have hcz14_3 : w3.cell? ⟨gb56101, 3, none⟩ = some (.int .i64 a0_3) := (blk_cell BK56101.out 3).trans rfl
              have hcz14_4 : w3.cell? ⟨gb56101, 4, none⟩ = some (.int .i64 a0_4) := (blk_cell BK56101.out 4).trans rfl
              have hcz14_5 : w3.cell? ⟨gb56101, 5, none⟩ = some (.slice A0_5 l0_5.length c0_5) := (blk_cell BK56101.out 5).trans rfl
              have hfz14_0 := blk_frozen BK56101.out 0
              have hfz14_1 := blk_frozen BK56101.out 1
              have hfz14_2 := blk_frozen BK56101.out 2
              have hfz14_3 := blk_frozen BK56101.out 3
              have hfz14_4 := blk_frozen BK56101.out 4
              have hfz14_5 := blk_frozen BK56101.out 5
              go_wp2
              repeat (go_quiet (fail); try go_wp2)
              go_meet
              case rel => exact ⟨_, (decide (a0_3 > 100)), (by first | rfl | (simp; done) | (simp [*]; done)), H', ⟨by first | omega | exact Nat.le_refl _⟩, ⟨by (with_reducible repeat (first | refine blk_drewN ?_ _ | refine blk_drew ?_ | refine blk_alloc ?_ _)); exact BK56101.out⟩, ⟨by repeat (first | (with_reducible first | exact HB.out | apply below_alloc | apply pw_below_drewN | apply below_drew1 | refine below_set ?_ GE56101.out) | exact HB.out)⟩⟩
  case rest =>
    clear HC2
    try clear c1
    try clear c2
    try clear p2
    try clear c4
    try clear c4b0
    try clear c6
    try clear c6b0
    try clear c8
    try clear c8b0
    try clear c10
    try clear c10b0
    try clear c12
    try clear c12b0
    try clear hcz11_0
    try clear hcz11_1
    try clear hcz11_2
    try clear hcz11_3
    try clear hcz11_4
    try clear hcz11_5
    try clear hcz13_0
    try clear hcz13_1
    try clear hcz13_2
    try clear hcz13_3
    try clear hcz13_4
    try clear hcz13_5
    try clear hcz14_0
    try clear hcz14_1
    try clear hcz14_2
    try clear hcz14_3
    try clear hcz14_4
    try clear hcz14_5
    try clear hcz5_0
    try clear hcz5_1
    try clear hcz5_2
    try clear hcz5_3
    try clear hcz5_4
    try clear hcz5_5
    try clear hcz7_0
    try clear hcz7_1
    try clear hcz7_2
    try clear hcz7_3
    try clear hcz7_4
    try clear hcz7_5
    try clear hcz9_0
    try clear hcz9_1
    try clear hcz9_2
    try clear hcz9_3
    try clear hcz9_4
    try clear hcz9_5
    try clear hfz11_0
    try clear hfz11_1
    try clear hfz11_2
    try clear hfz11_3
    try clear hfz11_4
    try clear hfz11_5
    try clear hfz13_0
    try clear hfz13_1
    try clear hfz13_2
    try clear hfz13_3
    try clear hfz13_4
    try clear hfz13_5
    try clear hfz14_0
    try clear hfz14_1
    try clear hfz14_2
    try clear hfz14_3
    try clear hfz14_4
    try clear hfz14_5
    try clear hfz5_0
    try clear hfz5_1
    try clear hfz5_2
    try clear hfz5_3
    try clear hfz5_4
    try clear hfz5_5
    try clear hfz7_0
    try clear hfz7_1
    try clear hfz7_2
    try clear hfz7_3
    try clear hfz7_4
    try clear hfz7_5
    try clear hfz9_0
    try clear hfz9_1
    try clear hfz9_2
    try clear hfz9_3
    try clear hfz9_4
    try clear hfz9_5
    obtain ⟨kq, x31_1, rfl, HA, HJ1, BK56101, HB⟩ := hcut
    cases kq with
    | zero => exact absurd HA.out (by simp [plaitingref3_Check.j0])
    | succ kj1 =>
      have H := HA.out
      clear HA
      simp only [plaitingref3_Check.j0] at H
      by_cases c15 : x31_1 = true
      · subst c15
        have H1 : (some 1) = some r := by rw [if_pos rfl] at H; exact H
        clear H
        have H := H1
        clear H1
        obtain rfl := Option.some.inj H
        go_wp2
        repeat (go_quiet (fail); try go_wp2)
        go_ret
        exact ⟨by first | rfl | (simp [errW_none, errW_some] <;> rfl) | (simp [*, errW_none, errW_some] <;> rfl), by repeat (first | (with_reducible first | exact HB.out | apply below_alloc | apply pw_below_drewN | apply below_drew1 | refine below_set ?_ GE56101.out) | exact HB.out)⟩
      · replace c15 := Bool.eq_false_iff.mpr c15
        subst c15
        have H1 : (if a0_1 < (wrap64 (4 * (wrap64 ((wrap64 (a0_2 + a0_3)) + 1)))) then (plaitingref3_Check.j1 kj1 true a0_0 a0_1 a0_2 a0_3 a0_4 l0_5) else (if a0_1 > 10000 then (plaitingref3_Check.j1 kj1 true a0_0 a0_1 a0_2 a0_3 a0_4 l0_5) else (if a0_4 < 0 then (plaitingref3_Check.j1 kj1 true a0_0 a0_1 a0_2 a0_3 a0_4 l0_5) else (plaitingref3_Check.j1 kj1 (decide (a0_4 ≥ 65536)) a0_0 a0_1 a0_2 a0_3 a0_4 l0_5)))) = some r := by rw [if_neg (show ¬ (false = true) by decide)] at H; exact H
        clear H
        have H := H1
        clear H1
        have HC16 := Aside0.mk H
        clear H
        go_upto_region 3 with (fail)
        repeat (go_quiet (fail); go_upto_region 3 with (fail))
        go_cut [56] (fun v56 wc => ∃ (kq : Nat) (x56_15 : Bool), v56 = .bool x56_15 ∧ Aside0 (plaitingref3_Check.j1 kq x56_15 a0_0 a0_1 a0_2 a0_3 a0_4 l0_5 = some r) ∧ Aside0 (kq ≤ kj1) ∧ Aside0 (wc.heap[gb56101]? = some (.cells #[.int .i64 a0_0, .int .i64 a0_1, .int .i64 a0_2, .int .i64 a0_3, .int .i64 a0_4, (.slice A0_5 l0_5.length c0_5)] 35 (0, 0))) ∧ Aside0 (Below w.heap.size w wc))
        case first =>
          have H := HC16.out
          clear HC16
          by_cases c17 : a0_1 < (wrap64 (4 * (wrap64 ((wrap64 (a0_2 + a0_3)) + 1))))
          · rw [if_pos c17] at H
            have c17b0 : decide (a0_1 < (wrap64 (4 * (wrap64 ((wrap64 (a0_2 + a0_3)) + 1))))) = true := decide_eq_true c17
            clear c17
            (first | rw [c17b0] | (simp only [i64_w, i32_w]; rw [c17b0]) | skip)
            have H' := Aside0.mk H
            clear H
            have hcz18_0 : wc.cell? ⟨gb56101, 0, none⟩ = some (.int .i64 a0_0) := (blk_cell BK56101.out 0).trans rfl
            have hcz18_1 : wc.cell? ⟨gb56101, 1, none⟩ = some (.int .i64 a0_1) := (blk_cell BK56101.out 1).trans rfl
            have hcz18_2 : wc.cell? ⟨gb56101, 2, none⟩ = some (.int .i64 a0_2) := (blk_cell BK56101.out 2).trans rfl
            have hcz18_3 : wc.cell? ⟨gb56101, 3, none⟩ = some (.int .i64 a0_3) := (blk_cell BK56101.out 3).trans rfl
            have hcz18_4 : wc.cell? ⟨gb56101, 4, none⟩ = some (.int .i64 a0_4) := (blk_cell BK56101.out 4).trans rfl
            have hcz18_5 : wc.cell? ⟨gb56101, 5, none⟩ = some (.slice A0_5 l0_5.length c0_5) := (blk_cell BK56101.out 5).trans rfl
            have hfz18_0 := blk_frozen BK56101.out 0
            have hfz18_1 := blk_frozen BK56101.out 1
            have hfz18_2 := blk_frozen BK56101.out 2
            have hfz18_3 := blk_frozen BK56101.out 3
            have hfz18_4 := blk_frozen BK56101.out 4
            have hfz18_5 := blk_frozen BK56101.out 5
            go_wp2
            repeat (go_quiet (fail); try go_wp2)
            go_meet
            case rel => exact ⟨_, (true), (by first | rfl | (simp; done) | (simp [*]; done)), H', ⟨by have := HJ1.out; first | omega | exact Nat.le_refl _⟩, ⟨by (with_reducible repeat (first | refine blk_drewN ?_ _ | refine blk_drew ?_ | refine blk_alloc ?_ _)); exact BK56101.out⟩, ⟨by repeat (first | (with_reducible first | exact HB.out | apply below_alloc | apply pw_below_drewN | apply below_drew1 | refine below_set ?_ GE56101.out) | exact HB.out)⟩⟩
          · rw [if_neg c17] at H
            have c17b0 : decide (a0_1 < (wrap64 (4 * (wrap64 ((wrap64 (a0_2 + a0_3)) + 1))))) = false := decide_eq_false c17
            clear c17
            (first | rw [c17b0] | (simp only [i64_w, i32_w]; rw [c17b0]) | skip)
            by_cases c19 : a0_1 > 10000
            · rw [if_pos c19] at H
              have c19b0 : decide (10000 < a0_1) = true := decide_eq_true c19
              clear c19
              have H' := Aside0.mk H
              clear H
              have hcz20_0 : wc.cell? ⟨gb56101, 0, none⟩ = some (.int .i64 a0_0) := (blk_cell BK56101.out 0).trans rfl
              have hcz20_1 : wc.cell? ⟨gb56101, 1, none⟩ = some (.int .i64 a0_1) := (blk_cell BK56101.out 1).trans rfl
              have hcz20_2 : wc.cell? ⟨gb56101, 2, none⟩ = some (.int .i64 a0_2) := (blk_cell BK56101.out 2).trans rfl
              have hcz20_3 : wc.cell? ⟨gb56101, 3, none⟩ = some (.int .i64 a0_3) := (blk_cell BK56101.out 3).trans rfl
              have hcz20_4 : wc.cell? ⟨gb56101, 4, none⟩ = some (.int .i64 a0_4) := (blk_cell BK56101.out 4).trans rfl
              have hcz20_5 : wc.cell? ⟨gb56101, 5, none⟩ = some (.slice A0_5 l0_5.length c0_5) := (blk_cell BK56101.out 5).trans rfl
              have hfz20_0 := blk_frozen BK56101.out 0
              have hfz20_1 := blk_frozen BK56101.out 1
              have hfz20_2 := blk_frozen BK56101.out 2
              have hfz20_3 := blk_frozen BK56101.out 3
              have hfz20_4 := blk_frozen BK56101.out 4
              have hfz20_5 := blk_frozen BK56101.out 5
              go_wp2
              repeat (go_quiet (fail); try go_wp2)
              go_meet
              case rel => exact ⟨_, (true), (by first | rfl | (simp; done) | (simp [*]; done)), H', ⟨by have := HJ1.out; first | omega | exact Nat.le_refl _⟩, ⟨by (with_reducible repeat (first | refine blk_drewN ?_ _ | refine blk_drew ?_ | refine blk_alloc ?_ _)); exact BK56101.out⟩, ⟨by repeat (first | (with_reducible first | exact HB.out | apply below_alloc | apply pw_below_drewN | apply below_drew1 | refine below_set ?_ GE56101.out) | exact HB.out)⟩⟩
            · rw [if_neg c19] at H
              have c19b0 : decide (10000 < a0_1) = false := decide_eq_false c19
              clear c19
              by_cases c21 : a0_4 < 0
              · rw [if_pos c21] at H
                have c21b0 : decide (a0_4 < 0) = true := decide_eq_true c21
                clear c21
                have H' := Aside0.mk H
                clear H
                have hcz22_0 : wc.cell? ⟨gb56101, 0, none⟩ = some (.int .i64 a0_0) := (blk_cell BK56101.out 0).trans rfl
                have hcz22_1 : wc.cell? ⟨gb56101, 1, none⟩ = some (.int .i64 a0_1) := (blk_cell BK56101.out 1).trans rfl
                have hcz22_2 : wc.cell? ⟨gb56101, 2, none⟩ = some (.int .i64 a0_2) := (blk_cell BK56101.out 2).trans rfl
                have hcz22_3 : wc.cell? ⟨gb56101, 3, none⟩ = some (.int .i64 a0_3) := (blk_cell BK56101.out 3).trans rfl
                have hcz22_4 : wc.cell? ⟨gb56101, 4, none⟩ = some (.int .i64 a0_4) := (blk_cell BK56101.out 4).trans rfl
                have hcz22_5 : wc.cell? ⟨gb56101, 5, none⟩ = some (.slice A0_5 l0_5.length c0_5) := (blk_cell BK56101.out 5).trans rfl
                have hfz22_0 := blk_frozen BK56101.out 0
                have hfz22_1 := blk_frozen BK56101.out 1
                have hfz22_2 := blk_frozen BK56101.out 2
                have hfz22_3 := blk_frozen BK56101.out 3
                have hfz22_4 := blk_frozen BK56101.out 4
                have hfz22_5 := blk_frozen BK56101.out 5
                go_wp2
                repeat (go_quiet (fail); try go_wp2)
                go_meet
                case rel => exact ⟨_, (true), (by first | rfl | (simp; done) | (simp [*]; done)), H', ⟨by have := HJ1.out; first | omega | exact Nat.le_refl _⟩, ⟨by (with_reducible repeat (first | refine blk_drewN ?_ _ | refine blk_drew ?_ | refine blk_alloc ?_ _)); exact BK56101.out⟩, ⟨by repeat (first | (with_reducible first | exact HB.out | apply below_alloc | apply pw_below_drewN | apply below_drew1 | refine below_set ?_ GE56101.out) | exact HB.out)⟩⟩
              · rw [if_neg c21] at H
                have c21b0 : decide (a0_4 < 0) = false := decide_eq_false c21
                clear c21
                have H' := Aside0.mk H
                clear H
                have hcz23_0 : wc.cell? ⟨gb56101, 0, none⟩ = some (.int .i64 a0_0) := (blk_cell BK56101.out 0).trans rfl
                have hcz23_1 : wc.cell? ⟨gb56101, 1, none⟩ = some (.int .i64 a0_1) := (blk_cell BK56101.out 1).trans rfl
                have hcz23_2 : wc.cell? ⟨gb56101, 2, none⟩ = some (.int .i64 a0_2) := (blk_cell BK56101.out 2).trans rfl
                have hcz23_3 : wc.cell? ⟨gb56101, 3, none⟩ = some (.int .i64 a0_3) := (blk_cell BK56101.out 3).trans rfl
                have hcz23_4 : wc.cell? ⟨gb56101, 4, none⟩ = some (.int .i64 a0_4) := (blk_cell BK56101.out 4).trans rfl
                have hcz23_5 : wc.cell? ⟨gb56101, 5, none⟩ = some (.slice A0_5 l0_5.length c0_5) := (blk_cell BK56101.out 5).trans rfl
                have hfz23_0 := blk_frozen BK56101.out 0
                have hfz23_1 := blk_frozen BK56101.out 1
                have hfz23_2 := blk_frozen BK56101.out 2
                have hfz23_3 := blk_frozen BK56101.out 3
                have hfz23_4 := blk_frozen BK56101.out 4
                have hfz23_5 := blk_frozen BK56101.out 5
                go_wp2
                repeat (go_quiet (fail); try go_wp2)
                go_meet
                case rel => exact ⟨_, (decide (a0_4 ≥ 65536)), (by first | rfl | (simp; done) | (simp [*]; done)), H', ⟨by have := HJ1.out; first | omega | exact Nat.le_refl _⟩, ⟨by (with_reducible repeat (first | refine blk_drewN ?_ _ | refine blk_drew ?_ | refine blk_alloc ?_ _)); exact BK56101.out⟩, ⟨by repeat (first | (with_reducible first | exact HB.out | apply below_alloc | apply pw_below_drewN | apply below_drew1 | refine below_set ?_ GE56101.out) | exact HB.out)⟩⟩
        case rest =>
          clear HC16
          try clear c1
          try clear c2
          try clear p2
          try clear c4
          try clear c4b0
          try clear c6
          try clear c6b0
          try clear p6
          try clear c8
          try clear c8b0
          try clear c10
          try clear c10b0
          try clear c12
          try clear c12b0
          try clear c15
          try clear c17
          try clear c17b0
          try clear c19
          try clear c19b0
          try clear c21
          try clear c21b0
          try clear hcz11_0
          try clear hcz11_1
          try clear hcz11_2
          try clear hcz11_3
          try clear hcz11_4
          try clear hcz11_5
          try clear hcz13_0
          try clear hcz13_1
          try clear hcz13_2
          try clear hcz13_3
          try clear hcz13_4
          try clear hcz13_5
          try clear hcz14_0
          try clear hcz14_1
          try clear hcz14_2
          try clear hcz14_3
          try clear hcz14_4
          try clear hcz14_5
          try clear hcz18_0
          try clear hcz18_1
          try clear hcz18_2
          try clear hcz18_3
          try clear hcz18_4
          try clear hcz18_5
          try clear hcz20_0
          try clear hcz20_1
          try clear hcz20_2
          try clear hcz20_3
          try clear hcz20_4
          try clear hcz20_5
          try clear hcz22_0
          try clear hcz22_1
          try clear hcz22_2
          try clear hcz22_3
          try clear hcz22_4
          try clear hcz22_5
          try clear hcz23_0
          try clear hcz23_1
          try clear hcz23_2
          try clear hcz23_3
          try clear hcz23_4
          try clear hcz23_5
          try clear hcz5_0
          try clear hcz5_1
          try clear hcz5_2
          try clear hcz5_3
          try clear hcz5_4
          try clear hcz5_5
          try clear hcz7_0
          try clear hcz7_1
          try clear hcz7_2
          try clear hcz7_3
          try clear hcz7_4
          try clear hcz7_5
          try clear hcz9_0
          try clear hcz9_1
          try clear hcz9_2
          try clear hcz9_3
          try clear hcz9_4
          try clear hcz9_5
          try clear hfz11_0
          try clear hfz11_1
          try clear hfz11_2
          try clear hfz11_3
          try clear hfz11_4
          try clear hfz11_5
          try clear hfz13_0
          try clear hfz13_1
          try clear hfz13_2
          try clear hfz13_3
          try clear hfz13_4
          try clear hfz13_5
          try clear hfz14_0
          try clear hfz14_1
          try clear hfz14_2
          try clear hfz14_3
          try clear hfz14_4
          try clear hfz14_5
          try clear hfz18_0
          try clear hfz18_1
          try clear hfz18_2
          try clear hfz18_3
          try clear hfz18_4
          try clear hfz18_5
          try clear hfz20_0
          try clear hfz20_1
          try clear hfz20_2
          try clear hfz20_3
          try clear hfz20_4
          try clear hfz20_5
          try clear hfz22_0
          try clear hfz22_1
          try clear hfz22_2
          try clear hfz22_3
          try clear hfz22_4
          try clear hfz22_5
          try clear hfz23_0
          try clear hfz23_1
          try clear hfz23_2
          try clear hfz23_3
          try clear hfz23_4
          try clear hfz23_5
          try clear hfz5_0
          try clear hfz5_1
          try clear hfz5_2
          try clear hfz5_3
          try clear hfz5_4
          try clear hfz5_5
          try clear hfz7_0
          try clear hfz7_1
          try clear hfz7_2
          try clear hfz7_3
          try clear hfz7_4
          try clear hfz7_5
          try clear hfz9_0
          try clear hfz9_1
          try clear hfz9_2
          try clear hfz9_3
          try clear hfz9_4
          try clear hfz9_5
          try clear p2
          obtain ⟨kq, x56_15, rfl, HA, HJ15, BK56101, HB⟩ := hcut
          cases kq with
          | zero => exact absurd HA.out (by simp [plaitingref3_Check.j1])
          | succ kj15 =>
            have H := HA.out
            clear HA
            simp only [plaitingref3_Check.j1] at H
            by_cases c24 : x56_15 = true
            · subst c24
              have H1 : (some 1) = some r := by rw [if_pos rfl] at H; exact H
              clear H
              have H := H1
              clear H1
              obtain rfl := Option.some.inj H
              go_wp2
              repeat (go_quiet (fail); try go_wp2)
              go_ret
              exact ⟨by first | rfl | (simp [errW_none, errW_some] <;> rfl) | (simp [*, errW_none, errW_some] <;> rfl), by repeat (first | (with_reducible first | exact HB.out | apply below_alloc | apply pw_below_drewN | apply below_drew1 | refine below_set ?_ GE56101.out) | exact HB.out)⟩
            · replace c24 := Bool.eq_false_iff.mpr c24
              subst c24
              have H1 : (if (l0_5.length : Int) > 3 then (some 2) else (plaitingref3_Check.l0 kj15 0 a0_0 a0_1 a0_2 a0_3 a0_4 l0_5)) = some r := by rw [if_neg (show ¬ (false = true) by decide)] at H; exact H
              clear H
              have H := H1
              clear H1
              by_cases c25 : (l0_5.length : Int) > 3
              · rw [if_pos c25] at H
                have c25b0 : decide (3 < (l0_5.length : Int)) = true := decide_eq_true c25
                have c25b1 : decide (3 < l0_5.length) = true := decide_eq_true (by omega)
                clear c25
                obtain rfl := Option.some.inj H
                have hcz26_0 : wc.cell? ⟨gb56101, 0, none⟩ = some (.int .i64 a0_0) := (blk_cell BK56101.out 0).trans rfl
                have hcz26_1 : wc.cell? ⟨gb56101, 1, none⟩ = some (.int .i64 a0_1) := (blk_cell BK56101.out 1).trans rfl
                have hcz26_2 : wc.cell? ⟨gb56101, 2, none⟩ = some (.int .i64 a0_2) := (blk_cell BK56101.out 2).trans rfl
                have hcz26_3 : wc.cell? ⟨gb56101, 3, none⟩ = some (.int .i64 a0_3) := (blk_cell BK56101.out 3).trans rfl
                have hcz26_4 : wc.cell? ⟨gb56101, 4, none⟩ = some (.int .i64 a0_4) := (blk_cell BK56101.out 4).trans rfl
                have hcz26_5 : wc.cell? ⟨gb56101, 5, none⟩ = some (.slice A0_5 l0_5.length c0_5) := (blk_cell BK56101.out 5).trans rfl
                have hfz26_0 := blk_frozen BK56101.out 0
                have hfz26_1 := blk_frozen BK56101.out 1
                have hfz26_2 := blk_frozen BK56101.out 2
                have hfz26_3 := blk_frozen BK56101.out 3
                have hfz26_4 := blk_frozen BK56101.out 4
                have hfz26_5 := blk_frozen BK56101.out 5
                go_wp2
                repeat (go_quiet (fail); try go_wp2)
                go_ret
                exact ⟨by first | rfl | (simp [errW_none, errW_some] <;> rfl) | (simp [*, errW_none, errW_some] <;> rfl), by repeat (first | (with_reducible first | exact HB.out | apply below_alloc | apply pw_below_drewN | apply below_drew1 | refine below_set ?_ GE56101.out) | exact HB.out)⟩
              · rw [if_neg c25] at H
                have c25b0 : decide (3 < (l0_5.length : Int)) = false := decide_eq_false c25
                have c25b1 : decide (3 < l0_5.length) = false := decide_eq_false (by omega)
                clear c25
                have H' := Aside0.mk H
                clear H
                have hcz27_0 : wc.cell? ⟨gb56101, 0, none⟩ = some (.int .i64 a0_0) := (blk_cell BK56101.out 0).trans rfl
                have hcz27_1 : wc.cell? ⟨gb56101, 1, none⟩ = some (.int .i64 a0_1) := (blk_cell BK56101.out 1).trans rfl
                have hcz27_2 : wc.cell? ⟨gb56101, 2, none⟩ = some (.int .i64 a0_2) := (blk_cell BK56101.out 2).trans rfl
                have hcz27_3 : wc.cell? ⟨gb56101, 3, none⟩ = some (.int .i64 a0_3) := (blk_cell BK56101.out 3).trans rfl
                have hcz27_4 : wc.cell? ⟨gb56101, 4, none⟩ = some (.int .i64 a0_4) := (blk_cell BK56101.out 4).trans rfl
                have hcz27_5 : wc.cell? ⟨gb56101, 5, none⟩ = some (.slice A0_5 l0_5.length c0_5) := (blk_cell BK56101.out 5).trans rfl
                have hfz27_0 := blk_frozen BK56101.out 0
                have hfz27_1 := blk_frozen BK56101.out 1
                have hfz27_2 := blk_frozen BK56101.out 2
                have hfz27_3 := blk_frozen BK56101.out 3
                have hfz27_4 := blk_frozen BK56101.out 4
                have hfz27_5 := blk_frozen BK56101.out 5
                go_wp2
                repeat (go_quiet (fail); try go_wp2)
                go_loopg [3] kj15 (fun kq v3 w' => ∃ (x3_3 : Int), v3 = .int .i64 x3_3 ∧ Aside0 (plaitingref3_Check.l0 kq x3_3 a0_0 a0_1 a0_2 a0_3 a0_4 l0_5 = some r) ∧ Aside0 (kq ≤ kj15) ∧ Aside0 (w'.heap[gb56101]? = some (.cells #[.int .i64 a0_0, .int .i64 a0_1, .int .i64 a0_2, .int .i64 a0_3, .int .i64 a0_4, (.slice A0_5 l0_5.length c0_5)] 35 (0, 0))) ∧ Aside0 (Below w.heap.size w w'))
                case atStart => exact ⟨(0), (by first | rfl | (simp; done) | (simp [*]; done)), H', ⟨Nat.le_refl _⟩, ⟨by (with_reducible repeat (first | refine blk_drewN ?_ _ | refine blk_drew ?_ | refine blk_alloc ?_ _)); exact BK56101.out⟩, ⟨by repeat (first | (with_reducible first | exact HB.out | apply below_alloc | apply pw_below_drewN | apply below_drew1 | refine below_set ?_ GE56101.out) | exact HB.out)⟩⟩
                case round =>
                  clear H'
                  try clear c1
                  try clear c2
                  try clear p2
                  try clear c4
                  try clear c4b0
                  try clear c6
                  try clear c6b0
                  try clear p6
                  try clear c8
                  try clear c8b0
                  try clear c10
                  try clear c10b0
                  try clear c12
                  try clear c12b0
                  try clear c15
                  try clear c17
                  try clear c17b0
                  try clear c19
                  try clear c19b0
                  try clear c21
                  try clear c21b0
                  try clear c24
                  try clear c25
                  try clear c25b0
                  try clear c25b1
                  try clear hcz11_0
                  try clear hcz11_1
                  try clear hcz11_2
                  try clear hcz11_3
                  try clear hcz11_4
                  try clear hcz11_5
                  try clear hcz13_0
                  try clear hcz13_1
                  try clear hcz13_2
                  try clear hcz13_3
                  try clear hcz13_4
                  try clear hcz13_5
                  try clear hcz14_0
                  try clear hcz14_1
                  try clear hcz14_2
                  try clear hcz14_3
                  try clear hcz14_4
                  try clear hcz14_5
                  try clear hcz18_0
                  try clear hcz18_1
                  try clear hcz18_2
                  try clear hcz18_3
                  try clear hcz18_4
                  try clear hcz18_5
                  try clear hcz20_0
                  try clear hcz20_1
                  try clear hcz20_2
                  try clear hcz20_3
                  try clear hcz20_4
                  try clear hcz20_5
                  try clear hcz22_0
                  try clear hcz22_1
                  try clear hcz22_2
                  try clear hcz22_3
                  try clear hcz22_4
                  try clear hcz22_5
                  try clear hcz23_0
                  try clear hcz23_1
                  try clear hcz23_2
                  try clear hcz23_3
                  try clear hcz23_4
                  try clear hcz23_5
                  try clear hcz26_0
                  try clear hcz26_1
                  try clear hcz26_2
                  try clear hcz26_3
                  try clear hcz26_4
                  try clear hcz26_5
                  try clear hcz27_0
                  try clear hcz27_1
                  try clear hcz27_2
                  try clear hcz27_3
                  try clear hcz27_4
                  try clear hcz27_5
                  try clear hcz5_0
                  try clear hcz5_1
                  try clear hcz5_2
                  try clear hcz5_3
                  try clear hcz5_4
                  try clear hcz5_5
                  try clear hcz7_0
                  try clear hcz7_1
                  try clear hcz7_2
                  try clear hcz7_3
                  try clear hcz7_4
                  try clear hcz7_5
                  try clear hcz9_0
                  try clear hcz9_1
                  try clear hcz9_2
                  try clear hcz9_3
                  try clear hcz9_4
                  try clear hcz9_5
                  try clear hfz11_0
                  try clear hfz11_1
                  try clear hfz11_2
                  try clear hfz11_3
                  try clear hfz11_4
                  try clear hfz11_5
                  try clear hfz13_0
                  try clear hfz13_1
                  try clear hfz13_2
                  try clear hfz13_3
                  try clear hfz13_4
                  try clear hfz13_5
                  try clear hfz14_0
                  try clear hfz14_1
                  try clear hfz14_2
                  try clear hfz14_3
                  try clear hfz14_4
                  try clear hfz14_5
                  try clear hfz18_0
                  try clear hfz18_1
                  try clear hfz18_2
                  try clear hfz18_3
                  try clear hfz18_4
                  try clear hfz18_5
                  try clear hfz20_0
                  try clear hfz20_1
                  try clear hfz20_2
                  try clear hfz20_3
                  try clear hfz20_4
                  try clear hfz20_5
                  try clear hfz22_0
                  try clear hfz22_1
                  try clear hfz22_2
                  try clear hfz22_3
                  try clear hfz22_4
                  try clear hfz22_5
                  try clear hfz23_0
                  try clear hfz23_1
                  try clear hfz23_2
                  try clear hfz23_3
                  try clear hfz23_4
                  try clear hfz23_5
                  try clear hfz26_0
                  try clear hfz26_1
                  try clear hfz26_2
                  try clear hfz26_3
                  try clear hfz26_4
                  try clear hfz26_5
                  try clear hfz27_0
                  try clear hfz27_1
                  try clear hfz27_2
                  try clear hfz27_3
                  try clear hfz27_4
                  try clear hfz27_5
                  try clear hfz5_0
                  try clear hfz5_1
                  try clear hfz5_2
                  try clear hfz5_3
                  try clear hfz5_4
                  try clear hfz5_5
                  try clear hfz7_0
                  try clear hfz7_1
                  try clear hfz7_2
                  try clear hfz7_3
                  try clear hfz7_4
                  try clear hfz7_5
                  try clear hfz9_0
                  try clear hfz9_1
                  try clear hfz9_2
                  try clear hfz9_3
                  try clear hfz9_4
                  try clear hfz9_5
                  try clear p2
                  try clear p6
                  obtain ⟨x3_3, rfl, HA, HK3, BK56101, HB⟩ := hrel
                  cases gk with
                  | zero => exact absurd HA.out (by simp [plaitingref3_Check.l0])
                  | succ k3 =>
                    have H := HA.out
                    clear HA
                    simp only [plaitingref3_Check.l0] at H
                    by_cases c28 : x3_3 < (l0_5.length : Int)
                    · rw [if_pos c28] at H
                      have c28b0 : decide (x3_3 < (l0_5.length : Int)) = true := decide_eq_true c28
                      clear c28
                      by_cases c29 : 0 ≤ x3_3
                      · rw [if_pos c29] at H
                        have c29b0 : decide (0 ≤ x3_3) = true := decide_eq_true c29
                        clear c29
                        by_cases c30 : (rd l0_5 x3_3) < (-1)
                        · rw [if_pos c30] at H
                          have c30b0 : decide ((rd l0_5 x3_3) < (-1)) = true := decide_eq_true c30
                          clear c30
                          obtain rfl := Option.some.inj H
                          have hcz31_0 : wr.cell? ⟨gb56101, 0, none⟩ = some (.int .i64 a0_0) := (blk_cell BK56101.out 0).trans rfl
                          have hcz31_1 : wr.cell? ⟨gb56101, 1, none⟩ = some (.int .i64 a0_1) := (blk_cell BK56101.out 1).trans rfl
                          have hcz31_2 : wr.cell? ⟨gb56101, 2, none⟩ = some (.int .i64 a0_2) := (blk_cell BK56101.out 2).trans rfl
                          have hcz31_3 : wr.cell? ⟨gb56101, 3, none⟩ = some (.int .i64 a0_3) := (blk_cell BK56101.out 3).trans rfl
                          have hcz31_4 : wr.cell? ⟨gb56101, 4, none⟩ = some (.int .i64 a0_4) := (blk_cell BK56101.out 4).trans rfl
                          have hcz31_5 : wr.cell? ⟨gb56101, 5, none⟩ = some (.slice A0_5 l0_5.length c0_5) := (blk_cell BK56101.out 5).trans rfl
                          have hfz31_0 := blk_frozen BK56101.out 0
                          have hfz31_1 := blk_frozen BK56101.out 1
                          have hfz31_2 := blk_frozen BK56101.out 2
                          have hfz31_3 := blk_frozen BK56101.out 3
                          have hfz31_4 := blk_frozen BK56101.out 4
                          have hfz31_5 := blk_frozen BK56101.out 5
                          have p56102 : 0 ≤ (x3_3 : Int) := of_decide_eq_true (by first | (with_reducible assumption) | assumption)
                          have q56102 : x3_3 < (l0_5.length : Int) := of_decide_eq_true (by first | (with_reducible assumption) | assumption)
                          obtain ⟨ad56102, e56102, hx56102_0⟩ := Kd.at_int HR0_5.out x3_3 p56102 q56102
                          cases e56102
                          replace hx56102_0 := (HB.out.cell (World.block_lt_of_cell? w _ hx56102_0)).trans hx56102_0
                          replace p56102 := eq_true p56102
                          replace q56102 := eq_true q56102
                          go_wp2
                          repeat (go_quiet (fail); try go_wp2)
                          go_ret
                          exact ⟨by first | rfl | (simp [errW_none, errW_some] <;> rfl) | (simp [*, errW_none, errW_some] <;> rfl), by repeat (first | (with_reducible first | exact HB.out | apply below_alloc | apply pw_below_drewN | apply below_drew1 | refine below_set ?_ GE56101.out) | exact HB.out)⟩
                        · rw [if_neg c30] at H
                          have c30b0 : decide ((rd l0_5 x3_3) < (-1)) = false := decide_eq_false c30
                          clear c30
                          by_cases c32 : (rd l0_5 x3_3) ≥ a0_0
                          · rw [if_pos c32] at H
                            have c32b0 : decide (a0_0 ≤ (rd l0_5 x3_3)) = true := decide_eq_true c32
                            clear c32
                            obtain rfl := Option.some.inj H
                            have hcz33_0 : wr.cell? ⟨gb56101, 0, none⟩ = some (.int .i64 a0_0) := (blk_cell BK56101.out 0).trans rfl
                            have hcz33_1 : wr.cell? ⟨gb56101, 1, none⟩ = some (.int .i64 a0_1) := (blk_cell BK56101.out 1).trans rfl
                            have hcz33_2 : wr.cell? ⟨gb56101, 2, none⟩ = some (.int .i64 a0_2) := (blk_cell BK56101.out 2).trans rfl
                            have hcz33_3 : wr.cell? ⟨gb56101, 3, none⟩ = some (.int .i64 a0_3) := (blk_cell BK56101.out 3).trans rfl
                            have hcz33_4 : wr.cell? ⟨gb56101, 4, none⟩ = some (.int .i64 a0_4) := (blk_cell BK56101.out 4).trans rfl
                            have hcz33_5 : wr.cell? ⟨gb56101, 5, none⟩ = some (.slice A0_5 l0_5.length c0_5) := (blk_cell BK56101.out 5).trans rfl
                            have hfz33_0 := blk_frozen BK56101.out 0
                            have hfz33_1 := blk_frozen BK56101.out 1
                            have hfz33_2 := blk_frozen BK56101.out 2
                            have hfz33_3 := blk_frozen BK56101.out 3
                            have hfz33_4 := blk_frozen BK56101.out 4
                            have hfz33_5 := blk_frozen BK56101.out 5
                            have p56102 : 0 ≤ (x3_3 : Int) := of_decide_eq_true (by first | (with_reducible assumption) | assumption)
                            have q56102 : x3_3 < (l0_5.length : Int) := of_decide_eq_true (by first | (with_reducible assumption) | assumption)
                            obtain ⟨ad56102, e56102, hx56102_0⟩ := Kd.at_int HR0_5.out x3_3 p56102 q56102
                            cases e56102
                            replace hx56102_0 := (HB.out.cell (World.block_lt_of_cell? w _ hx56102_0)).trans hx56102_0
                            replace p56102 := eq_true p56102
                            replace q56102 := eq_true q56102
                            have p56103 : 0 ≤ (x3_3 : Int) := of_decide_eq_true (by first | (with_reducible assumption) | assumption)
                            have q56103 : x3_3 < (l0_5.length : Int) := of_decide_eq_true (by first | (with_reducible assumption) | assumption)
                            obtain ⟨ad56103, e56103, hx56103_0⟩ := Kd.at_int HR0_5.out x3_3 p56103 q56103
                            obtain rfl : ad56102 = ad56103 := (by injection e56103)
                            replace hx56103_0 := (HB.out.cell (World.block_lt_of_cell? w _ hx56103_0)).trans hx56103_0
                            replace p56103 := eq_true p56103
                            replace q56103 := eq_true q56103
                            go_wp2
                            repeat (go_quiet (fail); try go_wp2)
                            go_ret
                            exact ⟨by first | rfl | (simp [errW_none, errW_some] <;> rfl) | (simp [*, errW_none, errW_some] <;> rfl), by repeat (first | (with_reducible first | exact HB.out | apply below_alloc | apply pw_below_drewN | apply below_drew1 | refine below_set ?_ GE56101.out) | exact HB.out)⟩
                          · rw [if_neg c32] at H
                            have c32b0 : decide (a0_0 ≤ (rd l0_5 x3_3)) = false := decide_eq_false c32
                            clear c32
                            have H' := Aside0.mk H
                            clear H
                            have hcz34_0 : wr.cell? ⟨gb56101, 0, none⟩ = some (.int .i64 a0_0) := (blk_cell BK56101.out 0).trans rfl
                            have hcz34_1 : wr.cell? ⟨gb56101, 1, none⟩ = some (.int .i64 a0_1) := (blk_cell BK56101.out 1).trans rfl
                            have hcz34_2 : wr.cell? ⟨gb56101, 2, none⟩ = some (.int .i64 a0_2) := (blk_cell BK56101.out 2).trans rfl
                            have hcz34_3 : wr.cell? ⟨gb56101, 3, none⟩ = some (.int .i64 a0_3) := (blk_cell BK56101.out 3).trans rfl
                            have hcz34_4 : wr.cell? ⟨gb56101, 4, none⟩ = some (.int .i64 a0_4) := (blk_cell BK56101.out 4).trans rfl
                            have hcz34_5 : wr.cell? ⟨gb56101, 5, none⟩ = some (.slice A0_5 l0_5.length c0_5) := (blk_cell BK56101.out 5).trans rfl
                            have hfz34_0 := blk_frozen BK56101.out 0
                            have hfz34_1 := blk_frozen BK56101.out 1
                            have hfz34_2 := blk_frozen BK56101.out 2
                            have hfz34_3 := blk_frozen BK56101.out 3
                            have hfz34_4 := blk_frozen BK56101.out 4
                            have hfz34_5 := blk_frozen BK56101.out 5
                            have p56102 : 0 ≤ (x3_3 : Int) := of_decide_eq_true (by first | (with_reducible assumption) | assumption)
                            have q56102 : x3_3 < (l0_5.length : Int) := of_decide_eq_true (by first | (with_reducible assumption) | assumption)
                            obtain ⟨ad56102, e56102, hx56102_0⟩ := Kd.at_int HR0_5.out x3_3 p56102 q56102
                            cases e56102
                            replace hx56102_0 := (HB.out.cell (World.block_lt_of_cell? w _ hx56102_0)).trans hx56102_0
                            replace p56102 := eq_true p56102
                            replace q56102 := eq_true q56102
                            have p56103 : 0 ≤ (x3_3 : Int) := of_decide_eq_true (by first | (with_reducible assumption) | assumption)
                            have q56103 : x3_3 < (l0_5.length : Int) := of_decide_eq_true (by first | (with_reducible assumption) | assumption)
                            obtain ⟨ad56103, e56103, hx56103_0⟩ := Kd.at_int HR0_5.out x3_3 p56103 q56103
                            obtain rfl : ad56102 = ad56103 := (by injection e56103)
                            replace hx56103_0 := (HB.out.cell (World.block_lt_of_cell? w _ hx56103_0)).trans hx56103_0
                            replace p56103 := eq_true p56103
                            replace q56103 := eq_true q56103
                            go_wp2
                            repeat (go_quiet (fail); try go_wp2)
                            go_roundg k3
                            case measure => have := HJ1.out; have := HJ15.out; have := HK3.out; omega
                            case rel => exact ⟨(wrap64 (x3_3 + 1)), (by first | rfl | (simp; done) | (simp [*]; done)), H', ⟨by have := HJ1.out; have := HJ15.out; have := HK3.out; omega⟩, ⟨by (with_reducible repeat (first | refine blk_drewN ?_ _ | refine blk_drew ?_ | refine blk_alloc ?_ _)); exact BK56101.out⟩, ⟨by repeat (first | (with_reducible first | exact HB.out | apply below_alloc | apply pw_below_drewN | apply below_drew1 | refine below_set ?_ GE56101.out) | exact HB.out)⟩⟩
                      · rw [if_neg c29] at H
                        exact absurd H (by simp)
                    · rw [if_neg c28] at H
                      have c28b0 : decide (x3_3 < (l0_5.length : Int)) = false := decide_eq_false c28
                      clear c28
                      obtain rfl := Option.some.inj H
                      have hcz35_0 : wr.cell? ⟨gb56101, 0, none⟩ = some (.int .i64 a0_0) := (blk_cell BK56101.out 0).trans rfl
                      have hcz35_1 : wr.cell? ⟨gb56101, 1, none⟩ = some (.int .i64 a0_1) := (blk_cell BK56101.out 1).trans rfl
                      have hcz35_2 : wr.cell? ⟨gb56101, 2, none⟩ = some (.int .i64 a0_2) := (blk_cell BK56101.out 2).trans rfl
                      have hcz35_3 : wr.cell? ⟨gb56101, 3, none⟩ = some (.int .i64 a0_3) := (blk_cell BK56101.out 3).trans rfl
                      have hcz35_4 : wr.cell? ⟨gb56101, 4, none⟩ = some (.int .i64 a0_4) := (blk_cell BK56101.out 4).trans rfl
                      have hcz35_5 : wr.cell? ⟨gb56101, 5, none⟩ = some (.slice A0_5 l0_5.length c0_5) := (blk_cell BK56101.out 5).trans rfl
                      have hfz35_0 := blk_frozen BK56101.out 0
                      have hfz35_1 := blk_frozen BK56101.out 1
                      have hfz35_2 := blk_frozen BK56101.out 2
                      have hfz35_3 := blk_frozen BK56101.out 3
                      have hfz35_4 := blk_frozen BK56101.out 4
                      have hfz35_5 := blk_frozen BK56101.out 5
                      go_wp2
                      repeat (go_quiet (fail); try go_wp2)
                      go_ret
                      exact ⟨by first | rfl | (simp [errW_none, errW_some] <;> rfl) | (simp [*, errW_none, errW_some] <;> rfl), by repeat (first | (with_reducible first | exact HB.out | apply below_alloc | apply pw_below_drewN | apply below_drew1 | refine below_set ?_ GE56101.out) | exact HB.out)⟩

/-! ### plaitingref3_Same: function 35 -/
def plaitingref3_Same.l0 : Nat → List Int → List Int → Int → Option (Bool)
  | 0, _, _, _ => none
  | k + 1, x0, x1, x5 => if x5 < (x0.length : Int) then (if 0 ≤ x5 then (if x5 < (x1.length : Int) then (if (rd x0 x5) = (rd x1 x5) then (plaitingref3_Same.l0 k x0 x1 (wrap64 (x5 + 1))) else (some false)) else (none)) else (none)) else (some true)
def plaitingref3_Same.f (k : Nat) (l0 : List Int) (l1 : List Int) : Option (Bool) := if (l0.length : Int) = (l1.length : Int) then (plaitingref3_Same.l0 k l0 l1 0) else (some false)
theorem plaitingref3_Same.mono_l : ∀ k, (∀ y0 y1 y2, LeO (plaitingref3_Same.l0 k y0 y1 y2) (plaitingref3_Same.l0 (k + 1) y0 y1 y2))
  | 0 => fun _ _ _ r h => by simp [plaitingref3_Same.l0] at h
  | k + 1 => by
    have ih0 := plaitingref3_Same.mono_l k
    · intro y0 y1 y2
      unfold plaitingref3_Same.l0
      repeat' first
      | (with_reducible exact ih0 _ _ _)
      | (with_reducible exact LeO.refl _)
      | (with_reducible exact LeO.none _)
      | (with_reducible refine LeO.ite ?_ ?_)
      | (with_reducible refine LeO.bind ?_ (fun _ => ?_))
      | exact ih0 _ _ _
      | exact LeO.none _
      | refine LeO.ite ?_ ?_
      | refine LeO.bind ?_ (fun _ => ?_)
theorem plaitingref3_Same.mono : ∀ a0 a1 k, LeO (plaitingref3_Same.f k a0 a1) (plaitingref3_Same.f (k + 1) a0 a1) := by
  intro a0 a1 k
  have ih0 := plaitingref3_Same.mono_l k
  unfold plaitingref3_Same.f
  repeat' first
      | (with_reducible exact ih0 _ _ _)
      | (with_reducible exact LeO.refl _)
      | (with_reducible exact LeO.none _)
      | (with_reducible refine LeO.ite ?_ ?_)
      | (with_reducible refine LeO.bind ?_ (fun _ => ?_))
      | exact ih0 _ _ _
      | exact LeO.none _
      | refine LeO.ite ?_ ?_
      | refine LeO.bind ?_ (fun _ => ?_)
set_option maxHeartbeats 8000000 in
set_option maxRecDepth 100000 in
theorem plaitingref3_Same.calls (k : Nat) (A0 : Option Addr) (c0 : Nat) (l0 : List Int) (A1 : Option Addr) (c1 : Nat) (l1 : List Int) (r : Bool) (w : World) (hr0 : Kd.C (Kd.int .i64) w A0 l0.length l0) (hc0 : l0.length ≤ c0) (hr1 : Kd.C (Kd.int .i64) w A1 l1.length l1) (hc1 : l1.length ≤ c1) (h : plaitingref3_Same.f k l0 l1 = some r) :
    Calls Try.prog 35 #[.slice A0 l0.length c0, .slice A1 l1.length c1] w fun e w' => e = .returned (.bool r) ∧ Drawn0 w w' := by
  have HR0 := Aside0.mk hr0
  have HC0 := Aside0.mk hc0
  clear hr0 hc0
  have HR1 := Aside0.mk hr1
  have HC1 := Aside0.mk hc1
  clear hr1 hc1
  have H : (if (l0.length : Int) = (l1.length : Int) then (plaitingref3_Same.l0 k l0 l1 0) else (some false)) = some r := h
  clear h
  by_cases c3 : (l0.length : Int) = (l1.length : Int)
  · rw [if_pos c3] at H
    have c3b0 : ((l0.length : Int) == (l1.length : Int)) = true := beq_iff_eq.mpr c3
    have c3b1 : ((l0.length : Int) != (l1.length : Int)) = false := bne_eq_false_iff_eq.mpr c3
    have c3b2 : (l0.length == l1.length) = true := by first | simpa using c3 | (simp at c3 ⊢; omega)
    clear c3
    have H' := Aside0.mk H
    clear H
    go_enter Try.func35, Try.ntmps35
    go_wp2
    repeat (go_quiet (fail); try go_wp2)
    go_loopg [5] k (fun kq v5 w' => ∃ (x5_1 : Int), v5 = .int .i64 x5_1 ∧ Aside0 (plaitingref3_Same.l0 kq l0 l1 x5_1 = some r) ∧ Aside0 (kq ≤ k) ∧ Drawn0 w w')
    case atStart => exact ⟨(0), (by first | rfl | (simp; done) | (simp [*]; done)), H', ⟨Nat.le_refl _⟩, by repeat (first | exact Drawn0.refl _ | apply Drawn0.step)⟩
    case round =>
      clear H'
      try clear c1
      try clear p2
      try clear c3
      try clear c3b0
      try clear c3b1
      try clear c3b2
      obtain ⟨x5_1, rfl, HA, HK1, ⟨m1, rfl⟩⟩ := hrel
      cases gk with
      | zero => exact absurd HA.out (by simp [plaitingref3_Same.l0])
      | succ k1 =>
        have H := HA.out
        clear HA
        simp only [plaitingref3_Same.l0] at H
        by_cases c4 : x5_1 < (l0.length : Int)
        · rw [if_pos c4] at H
          have c4b0 : decide (x5_1 < (l0.length : Int)) = true := decide_eq_true c4
          clear c4
          by_cases c5 : 0 ≤ x5_1
          · rw [if_pos c5] at H
            have c5b0 : decide (0 ≤ x5_1) = true := decide_eq_true c5
            clear c5
            by_cases c6 : x5_1 < (l1.length : Int)
            · rw [if_pos c6] at H
              have c6b0 : decide (x5_1 < (l1.length : Int)) = true := decide_eq_true c6
              clear c6
              by_cases c7 : (rd l0 x5_1) = (rd l1 x5_1)
              · rw [if_pos c7] at H
                have c7b0 : ((rd l0 x5_1) == (rd l1 x5_1)) = true := beq_iff_eq.mpr c7
                have c7b1 : ((rd l0 x5_1) != (rd l1 x5_1)) = false := bne_eq_false_iff_eq.mpr c7
                clear c7
                have H' := Aside0.mk H
                clear H
                have p70101 : 0 ≤ (x5_1 : Int) := of_decide_eq_true (by first | (with_reducible assumption) | assumption)
                have q70101 : x5_1 < (l0.length : Int) := of_decide_eq_true (by first | (with_reducible assumption) | assumption)
                obtain ⟨ad70101, e70101, hx70101_0⟩ := Kd.at_int HR0.out x5_1 p70101 q70101
                cases e70101
                replace p70101 := eq_true p70101
                replace q70101 := eq_true q70101
                have p70102 : 0 ≤ (x5_1 : Int) := of_decide_eq_true (by first | (with_reducible assumption) | assumption)
                have q70102 : x5_1 < (l1.length : Int) := of_decide_eq_true (by first | (with_reducible assumption) | assumption)
                obtain ⟨ad70102, e70102, hx70102_0⟩ := Kd.at_int HR1.out x5_1 p70102 q70102
                cases e70102
                replace p70102 := eq_true p70102
                replace q70102 := eq_true q70102
                go_wp2
                repeat (go_quiet (fail); try go_wp2)
                go_roundg k1
                case measure => have := HK1.out; omega
                case rel => exact ⟨(wrap64 (x5_1 + 1)), (by first | rfl | (simp; done) | (simp [*]; done)), H', ⟨by have := HK1.out; omega⟩, by repeat (first | exact Drawn0.refl _ | apply Drawn0.step)⟩
              · rw [if_neg c7] at H
                have c7b0 : ((rd l0 x5_1) == (rd l1 x5_1)) = false := beq_eq_false_iff_ne.mpr c7
                have c7b1 : ((rd l0 x5_1) != (rd l1 x5_1)) = true := bne_iff_ne.mpr c7
                obtain rfl := Option.some.inj H
                have p70101 : 0 ≤ (x5_1 : Int) := of_decide_eq_true (by first | (with_reducible assumption) | assumption)
                have q70101 : x5_1 < (l0.length : Int) := of_decide_eq_true (by first | (with_reducible assumption) | assumption)
                obtain ⟨ad70101, e70101, hx70101_0⟩ := Kd.at_int HR0.out x5_1 p70101 q70101
                cases e70101
                replace p70101 := eq_true p70101
                replace q70101 := eq_true q70101
                have p70102 : 0 ≤ (x5_1 : Int) := of_decide_eq_true (by first | (with_reducible assumption) | assumption)
                have q70102 : x5_1 < (l1.length : Int) := of_decide_eq_true (by first | (with_reducible assumption) | assumption)
                obtain ⟨ad70102, e70102, hx70102_0⟩ := Kd.at_int HR1.out x5_1 p70102 q70102
                cases e70102
                replace p70102 := eq_true p70102
                replace q70102 := eq_true q70102
                go_wp2
                repeat (go_quiet (fail); try go_wp2)
                go_ret
                exact ⟨by first | rfl | (simp; done) | (simp [*]; done), by repeat (first | exact Drawn0.refl _ | apply Drawn0.step)⟩
            · rw [if_neg c6] at H
              exact absurd H (by simp)
          · rw [if_neg c5] at H
            exact absurd H (by simp)
        · rw [if_neg c4] at H
          have c4b0 : decide (x5_1 < (l0.length : Int)) = false := decide_eq_false c4
          clear c4
          obtain rfl := Option.some.inj H
          go_wp2
          repeat (go_quiet (fail); try go_wp2)
          go_ret
          exact ⟨by first | rfl | (simp; done) | (simp [*]; done), by repeat (first | exact Drawn0.refl _ | apply Drawn0.step)⟩
  · rw [if_neg c3] at H
    have c3b0 : ((l0.length : Int) == (l1.length : Int)) = false := beq_eq_false_iff_ne.mpr c3
    have c3b1 : ((l0.length : Int) != (l1.length : Int)) = true := bne_iff_ne.mpr c3
    have c3b2 : (l0.length == l1.length) = false := by first | simpa using c3 | (simp at c3 ⊢; omega)
    obtain rfl := Option.some.inj H
    go_enter Try.func35, Try.ntmps35
    go_wp2
    repeat (go_quiet (fail); try go_wp2)
    go_ret
    exact ⟨by first | rfl | (simp; done) | (simp [*]; done), by repeat (first | exact Drawn0.refl _ | apply Drawn0.step)⟩

/-! ### plaitingref3_In: function 37 -/
def plaitingref3_In.l0 : Nat → List Int → Int → Int → Option (Bool)
  | 0, _, _, _ => none
  | k + 1, x0, x1, x5 => if x5 < (x0.length : Int) then (if 0 ≤ x5 then (if (rd x0 x5) = x1 then (some true) else (plaitingref3_In.l0 k x0 x1 (wrap64 (x5 + 1)))) else (none)) else (some false)
def plaitingref3_In.f (k : Nat) (l0 : List Int) (a1 : Int) : Option (Bool) := plaitingref3_In.l0 k l0 a1 0
theorem plaitingref3_In.mono_l : ∀ k, (∀ y0 y1 y2, LeO (plaitingref3_In.l0 k y0 y1 y2) (plaitingref3_In.l0 (k + 1) y0 y1 y2))
  | 0 => fun _ _ _ r h => by simp [plaitingref3_In.l0] at h
  | k + 1 => by
    have ih0 := plaitingref3_In.mono_l k
    · intro y0 y1 y2
      unfold plaitingref3_In.l0
      repeat' first
      | (with_reducible exact ih0 _ _ _)
      | (with_reducible exact LeO.refl _)
      | (with_reducible exact LeO.none _)
      | (with_reducible refine LeO.ite ?_ ?_)
      | (with_reducible refine LeO.bind ?_ (fun _ => ?_))
      | exact ih0 _ _ _
      | exact LeO.none _
      | refine LeO.ite ?_ ?_
      | refine LeO.bind ?_ (fun _ => ?_)
theorem plaitingref3_In.mono : ∀ a0 a1 k, LeO (plaitingref3_In.f k a0 a1) (plaitingref3_In.f (k + 1) a0 a1) := by
  intro a0 a1 k
  have ih0 := plaitingref3_In.mono_l k
  unfold plaitingref3_In.f
  repeat' first
      | (with_reducible exact ih0 _ _ _)
      | (with_reducible exact LeO.refl _)
      | (with_reducible exact LeO.none _)
      | (with_reducible refine LeO.ite ?_ ?_)
      | (with_reducible refine LeO.bind ?_ (fun _ => ?_))
      | exact ih0 _ _ _
      | exact LeO.none _
      | refine LeO.ite ?_ ?_
      | refine LeO.bind ?_ (fun _ => ?_)
set_option maxHeartbeats 8000000 in
set_option maxRecDepth 100000 in
theorem plaitingref3_In.calls (k : Nat) (A0 : Option Addr) (c0 : Nat) (l0 : List Int) (a1 : Int) (r : Bool) (w : World) (hr0 : Kd.C (Kd.int .i64) w A0 l0.length l0) (hc0 : l0.length ≤ c0) (h : plaitingref3_In.f k l0 a1 = some r) :
    Calls Try.prog 37 #[.slice A0 l0.length c0, .int .i64 a1] w fun e w' => e = .returned (.bool r) ∧ Drawn0 w w' := by
  have HR0 := Aside0.mk hr0
  have HC0 := Aside0.mk hc0
  clear hr0 hc0
  have H : (plaitingref3_In.l0 k l0 a1 0) = some r := h
  clear h
  have H' := Aside0.mk H
  clear H
  go_enter Try.func37, Try.ntmps37
  go_wp2
  go_loopg [5] k (fun kq v5 w' => ∃ (x5_1 : Int), v5 = .int .i64 x5_1 ∧ Aside0 (plaitingref3_In.l0 kq l0 a1 x5_1 = some r) ∧ Aside0 (kq ≤ k) ∧ Drawn0 w w')
  case atStart => exact ⟨(0), (by first | rfl | (simp; done) | (simp [*]; done)), H', ⟨Nat.le_refl _⟩, by repeat (first | exact Drawn0.refl _ | apply Drawn0.step)⟩
  case round =>
    clear H'
    try clear p2
    obtain ⟨x5_1, rfl, HA, HK1, ⟨m1, rfl⟩⟩ := hrel
    cases gk with
    | zero => exact absurd HA.out (by simp [plaitingref3_In.l0])
    | succ k1 =>
      have H := HA.out
      clear HA
      simp only [plaitingref3_In.l0] at H
      by_cases c3 : x5_1 < (l0.length : Int)
      · rw [if_pos c3] at H
        have c3b0 : decide (x5_1 < (l0.length : Int)) = true := decide_eq_true c3
        clear c3
        by_cases c4 : 0 ≤ x5_1
        · rw [if_pos c4] at H
          have c4b0 : decide (0 ≤ x5_1) = true := decide_eq_true c4
          clear c4
          by_cases c5 : (rd l0 x5_1) = a1
          · rw [if_pos c5] at H
            have c5b0 : ((rd l0 x5_1) == a1) = true := beq_iff_eq.mpr c5
            have c5b1 : ((rd l0 x5_1) != a1) = false := bne_eq_false_iff_eq.mpr c5
            clear c5
            obtain rfl := Option.some.inj H
            have p74101 : 0 ≤ (x5_1 : Int) := of_decide_eq_true (by first | (with_reducible assumption) | assumption)
            have q74101 : x5_1 < (l0.length : Int) := of_decide_eq_true (by first | (with_reducible assumption) | assumption)
            obtain ⟨ad74101, e74101, hx74101_0⟩ := Kd.at_int HR0.out x5_1 p74101 q74101
            cases e74101
            replace p74101 := eq_true p74101
            replace q74101 := eq_true q74101
            go_wp2
            go_ret
            exact ⟨by first | rfl | (simp; done) | (simp [*]; done), by repeat (first | exact Drawn0.refl _ | apply Drawn0.step)⟩
          · rw [if_neg c5] at H
            have c5b0 : ((rd l0 x5_1) == a1) = false := beq_eq_false_iff_ne.mpr c5
            have c5b1 : ((rd l0 x5_1) != a1) = true := bne_iff_ne.mpr c5
            have H' := Aside0.mk H
            clear H
            have p74101 : 0 ≤ (x5_1 : Int) := of_decide_eq_true (by first | (with_reducible assumption) | assumption)
            have q74101 : x5_1 < (l0.length : Int) := of_decide_eq_true (by first | (with_reducible assumption) | assumption)
            obtain ⟨ad74101, e74101, hx74101_0⟩ := Kd.at_int HR0.out x5_1 p74101 q74101
            cases e74101
            replace p74101 := eq_true p74101
            replace q74101 := eq_true q74101
            go_wp2
            go_roundg k1
            case measure => have := HK1.out; omega
            case rel => exact ⟨(wrap64 (x5_1 + 1)), (by first | rfl | (simp; done) | (simp [*]; done)), H', ⟨by have := HK1.out; omega⟩, by repeat (first | exact Drawn0.refl _ | apply Drawn0.step)⟩
        · rw [if_neg c4] at H
          exact absurd H (by simp)
      · rw [if_neg c3] at H
        have c3b0 : decide (x5_1 < (l0.length : Int)) = false := decide_eq_false c3
        clear c3
        obtain rfl := Option.some.inj H
        go_wp2
        go_ret
        exact ⟨by first | rfl | (simp; done) | (simp [*]; done), by repeat (first | exact Drawn0.refl _ | apply Drawn0.step)⟩

/-! ### plaitingref3_Slots: function 51 -/
def plaitingref3_Slots.f (a0_0 : Int) (a0_1 : Int) (a0_2 : Int) (a0_3 : Int) (a0_4 : Int) (l0_5 : List Int) : Option (Int) := some (wrap64 (a0_0 + (l0_5.length : Int)))
set_option maxHeartbeats 8000000 in
set_option maxRecDepth 100000 in
theorem plaitingref3_Slots.calls (a0_0 : Int) (a0_1 : Int) (a0_2 : Int) (a0_3 : Int) (a0_4 : Int) (A0_5 : Option Addr) (c0_5 : Nat) (l0_5 : List Int) (r : Int) (w : World) (hr0_5 : Kd.C (Kd.int .i64) w A0_5 l0_5.length l0_5) (hc0_5 : l0_5.length ≤ c0_5) (h : plaitingref3_Slots.f a0_0 a0_1 a0_2 a0_3 a0_4 l0_5 = some r) :
    Calls Try.prog 51 #[.agg #[.int .i64 a0_0, .int .i64 a0_1, .int .i64 a0_2, .int .i64 a0_3, .int .i64 a0_4, .slice A0_5 l0_5.length c0_5]] w fun e w' => e = .returned (.int .i64 r) ∧ Below w.heap.size w w' := by
  have hu35 := Try.underlying35
  have HR0_5 := Aside0.mk hr0_5
  have HC0_5 := Aside0.mk hc0_5
  clear hr0_5 hc0_5
  have HB := Aside0.mk (Below.refl w.heap.size w)
  have H : (some (wrap64 (a0_0 + (l0_5.length : Int)))) = some r := h
  clear h
  obtain rfl := Option.some.inj H
  go_enter Try.func51, Try.ntmps51
  go_wp2_with (first | ((with_reducible refine gate_dst (N := 1) rfl ?_); refine box_event ?hg (N := 1) ?hd (cs := #[.int .i64 a0_0, .int .i64 a0_1, .int .i64 a0_2, .int .i64 a0_3, .int .i64 a0_4, .slice A0_5 l0_5.length c0_5]) (t := 35) ?hr ?_; (case hd => rfl); (case hg => rfl); (case hr => first | (go_simp; done) | (go_simp; rfl)); intro gb102101 hg w2 hbox hb; have n0_ := Aside0.mk (below_step (by repeat (first | (with_reducible first | exact HB.out | apply below_alloc | apply pw_below_drewN | apply below_drew1) | exact HB.out)) hb); have n1_ := Aside0.mk (hbox); have n2_ := Aside0.mk ((by rw [hg]; exact (below_size (by repeat (first | (with_reducible first | exact HB.out | apply below_alloc | apply pw_below_drewN | apply below_drew1) | exact HB.out))) : w.heap.size ≤ gb102101)); have n3_ := Aside0.mk ((by rw [hg]; exact (below_size (by repeat (first | (with_reducible first | exact HB.out | apply below_alloc | apply pw_below_drewN | apply below_drew1) | exact HB.out))) : w.heap.size ≤ gb102101)); clear HB; have HB := n0_; have BK102101 := n1_; have GW102101 := n2_; have GE102101 := n3_; clear n0_ n1_ n2_ n3_; clear hb hbox hg; have hcz3_0 : w2.cell? ⟨gb102101, 0, none⟩ = some (.int .i64 a0_0) := (blk_cell BK102101.out 0).trans rfl; have hcz3_1 : w2.cell? ⟨gb102101, 1, none⟩ = some (.int .i64 a0_1) := (blk_cell BK102101.out 1).trans rfl; have hcz3_2 : w2.cell? ⟨gb102101, 2, none⟩ = some (.int .i64 a0_2) := (blk_cell BK102101.out 2).trans rfl; have hcz3_3 : w2.cell? ⟨gb102101, 3, none⟩ = some (.int .i64 a0_3) := (blk_cell BK102101.out 3).trans rfl; have hcz3_4 : w2.cell? ⟨gb102101, 4, none⟩ = some (.int .i64 a0_4) := (blk_cell BK102101.out 4).trans rfl; have hcz3_5 : w2.cell? ⟨gb102101, 5, none⟩ = some (.slice A0_5 l0_5.length c0_5) := (blk_cell BK102101.out 5).trans rfl; have hfz3_0 := blk_frozen BK102101.out 0; have hfz3_1 := blk_frozen BK102101.out 1; have hfz3_2 := blk_frozen BK102101.out 2; have hfz3_3 := blk_frozen BK102101.out 3; have hfz3_4 := blk_frozen BK102101.out 4; have hfz3_5 := blk_frozen BK102101.out 5))
  go_ret
  exact ⟨by first | rfl | (simp [errW_none, errW_some] <;> rfl) | (simp [*, errW_none, errW_some] <;> rfl), by repeat (first | (with_reducible first | exact HB.out | apply below_alloc | apply pw_below_drewN | apply below_drew1 | refine below_set ?_ GE102101.out) | exact HB.out)⟩

/-! ### plaitingref3_Owners: function 55 -/
def plaitingref3_Owners.j0 : Nat → Int → Bool → Int → Int → Int → Int → Int → List Int → Option (List Int)
  | 0, _, _, _, _, _, _, _, _ => none
  | k + 1, x1, x6, x110102000, x110102001, x110102002, x110102003, x110102004, x110102005 => if x6 = true then (some ([] : List Int)) else (if x1 < x110102000 then (some (([x1] : List Int))) else (if 0 ≤ (wrap64 (x1 - x110102000)) then (if (wrap64 (x1 - x110102000)) < (x110102005.length : Int) then (if (rd x110102005 (wrap64 (x1 - x110102000))) < 0 then (some ([] : List Int)) else (if x110102000 = 0 then (none) else (some (([rd x110102005 (wrap64 (x1 - x110102000)), Int.tmod (wrap64 ((rd x110102005 (wrap64 (x1 - x110102000))) + 1)) x110102000] : List Int))))) else (none)) else (none)))
def plaitingref3_Owners.f (k : Nat) (a0_0 : Int) (a0_1 : Int) (a0_2 : Int) (a0_3 : Int) (a0_4 : Int) (l0_5 : List Int) (a1 : Int) : Option (List Int) := if a1 < 0 then (plaitingref3_Owners.j0 k a1 true a0_0 a0_1 a0_2 a0_3 a0_4 l0_5) else ((plaitingref3_Slots.f a0_0 a0_1 a0_2 a0_3 a0_4 l0_5).bind fun t110102 => (plaitingref3_Owners.j0 k a1 (decide (a1 ≥ t110102)) a0_0 a0_1 a0_2 a0_3 a0_4 l0_5))
theorem plaitingref3_Owners.mono_l : ∀ k, (∀ y0 y1 y2 y3 y4 y5 y6 y7, LeO (plaitingref3_Owners.j0 k y0 y1 y2 y3 y4 y5 y6 y7) (plaitingref3_Owners.j0 (k + 1) y0 y1 y2 y3 y4 y5 y6 y7))
  | 0 => fun _ _ _ _ _ _ _ _ r h => by simp [plaitingref3_Owners.j0] at h
  | k + 1 => by
    have ih0 := plaitingref3_Owners.mono_l k
    · intro y0 y1 y2 y3 y4 y5 y6 y7
      unfold plaitingref3_Owners.j0
      repeat' first
      | (with_reducible exact ih0 _ _ _ _ _ _ _ _)
      | (with_reducible exact LeO.refl _)
      | (with_reducible exact LeO.none _)
      | (with_reducible refine LeO.ite ?_ ?_)
      | (with_reducible refine LeO.bind ?_ (fun _ => ?_))
      | exact ih0 _ _ _ _ _ _ _ _
      | exact LeO.none _
      | refine LeO.ite ?_ ?_
      | refine LeO.bind ?_ (fun _ => ?_)
theorem plaitingref3_Owners.mono : ∀ a0 a1 a2 a3 a4 a5 a6 k, LeO (plaitingref3_Owners.f k a0 a1 a2 a3 a4 a5 a6) (plaitingref3_Owners.f (k + 1) a0 a1 a2 a3 a4 a5 a6) := by
  intro a0 a1 a2 a3 a4 a5 a6 k
  have ih0 := plaitingref3_Owners.mono_l k
  unfold plaitingref3_Owners.f
  repeat' first
      | (with_reducible exact ih0 _ _ _ _ _ _ _ _)
      | (with_reducible exact LeO.refl _)
      | (with_reducible exact LeO.none _)
      | (with_reducible refine LeO.ite ?_ ?_)
      | (with_reducible refine LeO.bind ?_ (fun _ => ?_))
      | exact ih0 _ _ _ _ _ _ _ _
      | exact LeO.none _
      | refine LeO.ite ?_ ?_
      | refine LeO.bind ?_ (fun _ => ?_)
set_option maxHeartbeats 8000000 in
set_option maxRecDepth 100000 in
theorem plaitingref3_Owners.calls (k : Nat) (a0_0 : Int) (a0_1 : Int) (a0_2 : Int) (a0_3 : Int) (a0_4 : Int) (A0_5 : Option Addr) (c0_5 : Nat) (l0_5 : List Int) (a1 : Int) (r : List Int) (w : World) (hr0_5 : Kd.C (Kd.int .i64) w A0_5 l0_5.length l0_5) (hc0_5 : l0_5.length ≤ c0_5) (h : plaitingref3_Owners.f k a0_0 a0_1 a0_2 a0_3 a0_4 l0_5 a1 = some r) :
    Calls Try.prog 55 #[.agg #[.int .i64 a0_0, .int .i64 a0_1, .int .i64 a0_2, .int .i64 a0_3, .int .i64 a0_4, .slice A0_5 l0_5.length c0_5], .int .i64 a1] w fun e w' => ∃ v0_ : Value, e = .returned (v0_) ∧ Kd.R (Kd.int .i64) 3 w' w.heap.size (fun _ => True) v0_ r ∧ Below w.heap.size w w' := by
  have hu35 := Try.underlying35
  have HR0_5 := Aside0.mk hr0_5
  have HC0_5 := Aside0.mk hc0_5
  clear hr0_5 hc0_5
  have HB := Aside0.mk (Below.refl w.heap.size w)
  have H : (if a1 < 0 then (plaitingref3_Owners.j0 k a1 true a0_0 a0_1 a0_2 a0_3 a0_4 l0_5) else ((plaitingref3_Slots.f a0_0 a0_1 a0_2 a0_3 a0_4 l0_5).bind fun t110102 => (plaitingref3_Owners.j0 k a1 (decide (a1 ≥ t110102)) a0_0 a0_1 a0_2 a0_3 a0_4 l0_5))) = some r := h
  clear h
  have HC3 := Aside0.mk H
  clear H
  go_enter Try.func55, Try.ntmps55
  go_upto_region 1 with (first | ((with_reducible refine gate_dst (N := 2) rfl ?_); refine box_event ?hg (N := 2) ?hd (cs := #[.int .i64 a0_0, .int .i64 a0_1, .int .i64 a0_2, .int .i64 a0_3, .int .i64 a0_4, .slice A0_5 l0_5.length c0_5]) (t := 35) ?hr ?_; (case hd => rfl); (case hg => rfl); (case hr => first | (go_simp; done) | (go_simp; rfl)); intro gb110101 hg w4 hbox hb; have n0_ := Aside0.mk (below_step (by repeat (first | (with_reducible first | exact HB.out | apply below_alloc | apply pw_below_drewN | apply below_drew1) | exact HB.out)) hb); have n1_ := Aside0.mk (hbox); have n2_ := Aside0.mk ((by rw [hg]; exact (below_size (by repeat (first | (with_reducible first | exact HB.out | apply below_alloc | apply pw_below_drewN | apply below_drew1) | exact HB.out))) : w.heap.size ≤ gb110101)); have n3_ := Aside0.mk ((by rw [hg]; exact (below_size (by repeat (first | (with_reducible first | exact HB.out | apply below_alloc | apply pw_below_drewN | apply below_drew1) | exact HB.out))) : w.heap.size ≤ gb110101)); clear HB; have HB := n0_; have BK110101 := n1_; have GW110101 := n2_; have GE110101 := n3_; clear n0_ n1_ n2_ n3_; clear hb hbox hg))
  (try simp only [Act.put, List.setIfInBounds_toArray, List.set_cons_zero, List.set_cons_succ])
  go_cut [6] (fun v6 wc => ∃ (kq : Nat) (x6_2 : Bool), v6 = .bool x6_2 ∧ Aside0 (plaitingref3_Owners.j0 kq a1 x6_2 a0_0 a0_1 a0_2 a0_3 a0_4 l0_5 = some r) ∧ Aside0 (kq ≤ k) ∧ Aside0 (wc.heap[gb110101]? = some (.cells #[.int .i64 a0_0, .int .i64 a0_1, .int .i64 a0_2, .int .i64 a0_3, .int .i64 a0_4, (.slice A0_5 l0_5.length c0_5)] 35 (0, 0))) ∧ Aside0 (Below w.heap.size w wc))
  case first =>
    have H := HC3.out
    clear HC3
    by_cases c5 : a1 < 0
    · rw [if_pos c5] at H
      have c5b0 : decide (a1 < 0) = true := decide_eq_true c5
      clear c5
      (first | rw [c5b0] | (simp only [i64_w, i32_w]; rw [c5b0]) | skip)
      have H' := Aside0.mk H
      clear H
      go_wp2
      go_meet
      case rel => exact ⟨_, (true), (by first | rfl | (simp; done) | (simp [*]; done)), H', ⟨by first | omega | exact Nat.le_refl _⟩, ⟨by (with_reducible repeat (first | refine blk_drewN ?_ _ | refine blk_drew ?_ | refine blk_alloc ?_ _)); exact BK110101.out⟩, ⟨by repeat (first | (with_reducible first | exact HB.out | apply below_alloc | apply pw_below_drewN | apply below_drew1 | refine below_set ?_ GE110101.out) | exact HB.out)⟩⟩
    · rw [if_neg c5] at H
      have c5b0 : decide (a1 < 0) = false := decide_eq_false c5
      clear c5
      (first | rw [c5b0] | (simp only [i64_w, i32_w]; rw [c5b0]) | skip)
      replace H := Option.bind_eq_some_iff.mp H
      obtain ⟨t110102, A60, H⟩ := H
      replace H : (plaitingref3_Owners.j0 k a1 (decide (a1 ≥ t110102)) a0_0 a0_1 a0_2 a0_3 a0_4 l0_5) = some r := H
      have A6 := Aside0.mk A60
      clear A60
      have H' := Aside0.mk H
      clear H
      have hcz7_0 : w4.cell? ⟨gb110101, 0, none⟩ = some (.int .i64 a0_0) := (blk_cell BK110101.out 0).trans rfl
      have hcz7_1 : w4.cell? ⟨gb110101, 1, none⟩ = some (.int .i64 a0_1) := (blk_cell BK110101.out 1).trans rfl
      have hcz7_2 : w4.cell? ⟨gb110101, 2, none⟩ = some (.int .i64 a0_2) := (blk_cell BK110101.out 2).trans rfl
      have hcz7_3 : w4.cell? ⟨gb110101, 3, none⟩ = some (.int .i64 a0_3) := (blk_cell BK110101.out 3).trans rfl
      have hcz7_4 : w4.cell? ⟨gb110101, 4, none⟩ = some (.int .i64 a0_4) := (blk_cell BK110101.out 4).trans rfl
      have hcz7_5 : w4.cell? ⟨gb110101, 5, none⟩ = some (.slice A0_5 l0_5.length c0_5) := (blk_cell BK110101.out 5).trans rfl
      have hfz7_0 := blk_frozen BK110101.out 0
      have hfz7_1 := blk_frozen BK110101.out 1
      have hfz7_2 := blk_frozen BK110101.out 2
      have hfz7_3 := blk_frozen BK110101.out 3
      have hfz7_4 := blk_frozen BK110101.out 4
      have hfz7_5 := blk_frozen BK110101.out 5
      go_wp2_with (first | (go_at_call 51; (with_reducible refine (plaitingref3_Slots.calls a0_0 a0_1 a0_2 a0_3 a0_4 _ _ l0_5 t110102 _ ?side1 ?side2 A6.out).mono ?_); (case side1 => repeat (first | exact (Kd.C_below HR0_5.out HB.out) | (with_reducible refine Kd.C_alloc ?_ _) | (with_reducible refine Kd.C_drewN ?_ _) | (with_reducible refine Kd.C_drew ?_))); (case side2 => exact HC0_5.out); rintro e w8 ⟨rfl, hb⟩; have n0_ := Aside0.mk (blk_below (g := gb110101) (o := .cells #[.int .i64 a0_0, .int .i64 a0_1, .int .i64 a0_2, .int .i64 a0_3, .int .i64 a0_4, .slice A0_5 l0_5.length c0_5] 35 (0, 0)) (by (with_reducible repeat (first | refine blk_drewN ?_ _ | refine blk_drew ?_ | refine blk_alloc ?_ _)); exact BK110101.out) hb); have n1_ := Aside0.mk (below_step (by repeat (first | (with_reducible first | exact HB.out | apply below_alloc | apply pw_below_drewN | apply below_drew1 | refine below_set ?_ GE110101.out) | exact HB.out)) hb); clear BK110101; clear HB; have BK110101 := n0_; have HB := n1_; clear n0_ n1_; (try clear hb); (try clear hb2); (try clear hk); (try clear hi)))
      go_meet
      case rel => exact ⟨_, (decide (a1 ≥ t110102)), (by first | rfl | (simp; done) | (simp [*]; done)), H', ⟨by first | omega | exact Nat.le_refl _⟩, ⟨by (with_reducible repeat (first | refine blk_drewN ?_ _ | refine blk_drew ?_ | refine blk_alloc ?_ _)); exact BK110101.out⟩, ⟨by repeat (first | (with_reducible first | exact HB.out | apply below_alloc | apply pw_below_drewN | apply below_drew1 | refine below_set ?_ GE110101.out) | exact HB.out)⟩⟩
  case rest =>
    clear HC3
    try clear p2
    try clear c5
    try clear c5b0
    try clear hcz7_0
    try clear hcz7_1
    try clear hcz7_2
    try clear hcz7_3
    try clear hcz7_4
    try clear hcz7_5
    try clear hfz7_0
    try clear hfz7_1
    try clear hfz7_2
    try clear hfz7_3
    try clear hfz7_4
    try clear hfz7_5
    obtain ⟨kq, x6_2, rfl, HA, HJ2, BK110101, HB⟩ := hcut
    cases kq with
    | zero => exact absurd HA.out (by simp [plaitingref3_Owners.j0])
    | succ kj2 =>
      have H := HA.out
      clear HA
      simp only [plaitingref3_Owners.j0] at H
      by_cases c9 : x6_2 = true
      · subst c9
        have H1 : (some ([] : List Int)) = some r := by rw [if_pos rfl] at H; exact H
        clear H
        have H := H1
        clear H1
        obtain rfl := Option.some.inj H
        go_wp2
        go_ret
        exact ⟨_, by first | rfl | (simp [errW_none, errW_some] <;> rfl) | (simp [*, errW_none, errW_some] <;> rfl), by first | exact Kd.R_nil _ _ _ _ _ | exact Kd.N_nil _ _ _ _ _ | exact Kd.V_nil _ _ _ _ _ | exact Kd.Q_nil _ _ _ _ _ | exact Kd.S_nil _ _ _ _ _, by repeat (first | (with_reducible first | exact HB.out | apply below_alloc | apply pw_below_drewN | apply below_drew1 | refine below_set ?_ GE110101.out) | exact HB.out)⟩
      · replace c9 := Bool.eq_false_iff.mpr c9
        subst c9
        have H1 : (if a1 < a0_0 then (some (([a1] : List Int))) else (if 0 ≤ (wrap64 (a1 - a0_0)) then (if (wrap64 (a1 - a0_0)) < (l0_5.length : Int) then (if (rd l0_5 (wrap64 (a1 - a0_0))) < 0 then (some ([] : List Int)) else (if a0_0 = 0 then (none) else (some (([rd l0_5 (wrap64 (a1 - a0_0)), Int.tmod (wrap64 ((rd l0_5 (wrap64 (a1 - a0_0))) + 1)) a0_0] : List Int))))) else (none)) else (none))) = some r := by rw [if_neg (show ¬ (false = true) by decide)] at H; exact H
        clear H
        have H := H1
        clear H1
        by_cases c10 : a1 < a0_0
        · rw [if_pos c10] at H
          have c10b0 : decide (a1 < a0_0) = true := decide_eq_true c10
          clear c10
          obtain ⟨y110103, hy110103⟩ : ∃ y_ : List Int, y_ = (([a1] : List Int)) := ⟨_, rfl⟩
          replace H : (some y110103) = some r := by first | (rw [hy110103]; with_reducible exact H) | (have H2_ := (Option.bind_some _ _).symm.trans H; rw [hy110103]; with_reducible exact H2_) | (have H2_ := (Option.bind_some _ _).symm.trans H; with_reducible exact H2_) | with_reducible exact H | (rw [hy110103]; exact H) | exact H
          have Ny110103 := Aside0.mk hy110103
          clear hy110103
          obtain rfl := Option.some.inj H
          have hcz11_0 : wc.cell? ⟨gb110101, 0, none⟩ = some (.int .i64 a0_0) := (blk_cell BK110101.out 0).trans rfl
          have hcz11_1 : wc.cell? ⟨gb110101, 1, none⟩ = some (.int .i64 a0_1) := (blk_cell BK110101.out 1).trans rfl
          have hcz11_2 : wc.cell? ⟨gb110101, 2, none⟩ = some (.int .i64 a0_2) := (blk_cell BK110101.out 2).trans rfl
          have hcz11_3 : wc.cell? ⟨gb110101, 3, none⟩ = some (.int .i64 a0_3) := (blk_cell BK110101.out 3).trans rfl
          have hcz11_4 : wc.cell? ⟨gb110101, 4, none⟩ = some (.int .i64 a0_4) := (blk_cell BK110101.out 4).trans rfl
          have hcz11_5 : wc.cell? ⟨gb110101, 5, none⟩ = some (.slice A0_5 l0_5.length c0_5) := (blk_cell BK110101.out 5).trans rfl
          have hfz11_0 := blk_frozen BK110101.out 0
          have hfz11_1 := blk_frozen BK110101.out 1
          have hfz11_2 := blk_frozen BK110101.out 2
          have hfz11_3 := blk_frozen BK110101.out 3
          have hfz11_4 := blk_frozen BK110101.out 4
          have hfz11_5 := blk_frozen BK110101.out 5
          go_wp2_with (first | ((with_reducible refine gate_dst (N := 21) rfl ?_); refine Kd.R_lit (Kd.int .i64) _ 3 ?hg (N := 21) ?hd (xs := ([a1] : List Int)) (inner := [.int .i64 a1]) (ok := fun _ => True) (okp := fun _ => True) ?hr ?hp (fun _ hk => hk) trivial (Below.refl _ _) (Nat.le_refl _) (by simp) ?_; (case hd => rfl); (case hg => rfl); (case hr => first | (go_simp; done) | (go_simp; rfl)); (case hp => exact (Reps.one (show Kd.M (Kd.int .i64) _ _ _ a1 [.int .i64 a1] from rfl) (Reps.none _ _))); intro v110104 w12 ho13 hb hg_ hnew_; clear hg_ hnew_; (first | rw [← Ny110103.out] at ho13 | (simp only [Int.reduceToNat] at ho13; rw [← Ny110103.out] at ho13)); have n0_ := Aside0.mk (Kd.R_lower ho13 (below_size (by repeat (first | (with_reducible first | exact HB.out | apply below_alloc | apply pw_below_drewN | apply below_drew1 | refine below_set ?_ GE110101.out) | exact HB.out)))); have n1_ := Aside0.mk (blk_below (g := gb110101) (o := .cells #[.int .i64 a0_0, .int .i64 a0_1, .int .i64 a0_2, .int .i64 a0_3, .int .i64 a0_4, .slice A0_5 l0_5.length c0_5] 35 (0, 0)) (by (with_reducible repeat (first | refine blk_drewN ?_ _ | refine blk_drew ?_ | refine blk_alloc ?_ _)); exact BK110101.out) hb); have n2_ := Aside0.mk (below_step (by repeat (first | (with_reducible first | exact HB.out | apply below_alloc | apply pw_below_drewN | apply below_drew1 | refine below_set ?_ GE110101.out) | exact HB.out)) hb); clear BK110101; clear HB; have HO110105 := n0_; have BK110101 := n1_; have HB := n2_; clear n0_ n1_ n2_; clear hb ho13))
          go_ret
          exact ⟨_, by first | rfl | (simp [errW_none, errW_some] <;> rfl) | (simp [*, errW_none, errW_some] <;> rfl), by (with_reducible repeat (first | apply Kd.R_alloc | apply Kd.R_drewN | apply Kd.R_drew)); exact HO110105.out, by repeat (first | (with_reducible first | exact HB.out | apply below_alloc | apply pw_below_drewN | apply below_drew1 | refine below_set ?_ GE110101.out) | exact HB.out)⟩
        · rw [if_neg c10] at H
          have c10b0 : decide (a1 < a0_0) = false := decide_eq_false c10
          clear c10
          obtain ⟨ji14, hji14⟩ : ∃ j_ : Int, (wrap64 (a1 - a0_0)) = j_ := ⟨_, rfl⟩
          replace H : (if 0 ≤ (ji14) then (if (ji14) < (l0_5.length : Int) then (if (rd l0_5 (ji14)) < 0 then (some ([] : List Int)) else (if a0_0 = 0 then (none) else (some (([rd l0_5 (ji14), Int.tmod (wrap64 ((rd l0_5 (ji14)) + 1)) a0_0] : List Int))))) else (none)) else (none)) = some r := by first | (rw [hji14] at H; exact H) | (simp only [hji14] at H ⊢; exact H)
          have hji14w : (IntKind.i64.wrap (a1 - a0_0)) = ji14 := (i64_w _).trans hji14
          by_cases c15 : 0 ≤ (ji14)
          · rw [if_pos c15] at H
            have c15b0 : decide (0 ≤ (ji14)) = true := decide_eq_true c15
            clear c15
            by_cases c16 : (ji14) < (l0_5.length : Int)
            · rw [if_pos c16] at H
              have c16b0 : decide ((ji14) < (l0_5.length : Int)) = true := decide_eq_true c16
              clear c16
              by_cases c17 : (rd l0_5 (ji14)) < 0
              · rw [if_pos c17] at H
                have c17b0 : decide ((rd l0_5 (ji14)) < 0) = true := decide_eq_true c17
                clear c17
                obtain rfl := Option.some.inj H
                have hcz18_0 : wc.cell? ⟨gb110101, 0, none⟩ = some (.int .i64 a0_0) := (blk_cell BK110101.out 0).trans rfl
                have hcz18_1 : wc.cell? ⟨gb110101, 1, none⟩ = some (.int .i64 a0_1) := (blk_cell BK110101.out 1).trans rfl
                have hcz18_2 : wc.cell? ⟨gb110101, 2, none⟩ = some (.int .i64 a0_2) := (blk_cell BK110101.out 2).trans rfl
                have hcz18_3 : wc.cell? ⟨gb110101, 3, none⟩ = some (.int .i64 a0_3) := (blk_cell BK110101.out 3).trans rfl
                have hcz18_4 : wc.cell? ⟨gb110101, 4, none⟩ = some (.int .i64 a0_4) := (blk_cell BK110101.out 4).trans rfl
                have hcz18_5 : wc.cell? ⟨gb110101, 5, none⟩ = some (.slice A0_5 l0_5.length c0_5) := (blk_cell BK110101.out 5).trans rfl
                have hfz18_0 := blk_frozen BK110101.out 0
                have hfz18_1 := blk_frozen BK110101.out 1
                have hfz18_2 := blk_frozen BK110101.out 2
                have hfz18_3 := blk_frozen BK110101.out 3
                have hfz18_4 := blk_frozen BK110101.out 4
                have hfz18_5 := blk_frozen BK110101.out 5
                have p110106 : 0 ≤ ((ji14) : Int) := of_decide_eq_true (by first | (with_reducible assumption) | assumption)
                have q110106 : (ji14) < (l0_5.length : Int) := of_decide_eq_true (by first | (with_reducible assumption) | assumption)
                obtain ⟨ad110106, e110106, hx110106_0⟩ := Kd.at_int HR0_5.out (ji14) p110106 q110106
                cases e110106
                replace hx110106_0 := (HB.out.cell (World.block_lt_of_cell? w _ hx110106_0)).trans hx110106_0
                replace p110106 := eq_true p110106
                replace q110106 := eq_true q110106
                go_wp2
                go_ret
                exact ⟨_, by first | rfl | (simp [errW_none, errW_some] <;> rfl) | (simp only [← hji14]; first | rfl | (simp [errW_none, errW_some] <;> rfl)) | (simp [*, errW_none, errW_some] <;> rfl), by first | exact Kd.R_nil _ _ _ _ _ | exact Kd.N_nil _ _ _ _ _ | exact Kd.V_nil _ _ _ _ _ | exact Kd.Q_nil _ _ _ _ _ | exact Kd.S_nil _ _ _ _ _, by repeat (first | (with_reducible first | exact HB.out | apply below_alloc | apply pw_below_drewN | apply below_drew1 | refine below_set ?_ GE110101.out) | exact HB.out)⟩
              · rw [if_neg c17] at H
                have c17b0 : decide ((rd l0_5 (ji14)) < 0) = false := decide_eq_false c17
                clear c17
                by_cases c19 : a0_0 = 0
                · rw [if_pos c19] at H
                  exact absurd H (by simp)
                · rw [if_neg c19] at H
                  have c19b0 : (a0_0 == 0) = false := beq_eq_false_iff_ne.mpr c19
                  have c19b1 : (a0_0 != 0) = true := bne_iff_ne.mpr c19
                  obtain ⟨y110108, hy110108⟩ : ∃ y_ : List Int, y_ = (([rd l0_5 (ji14), Int.tmod (wrap64 ((rd l0_5 (ji14)) + 1)) a0_0] : List Int)) := ⟨_, rfl⟩
                  replace H : (some y110108) = some r := by first | (rw [hy110108]; with_reducible exact H) | (have H2_ := (Option.bind_some _ _).symm.trans H; rw [hy110108]; with_reducible exact H2_) | (have H2_ := (Option.bind_some _ _).symm.trans H; with_reducible exact H2_) | with_reducible exact H | (rw [hy110108]; exact H) | exact H
                  have Ny110108 := Aside0.mk hy110108
                  clear hy110108
                  obtain rfl := Option.some.inj H
                  have hcz20_0 : wc.cell? ⟨gb110101, 0, none⟩ = some (.int .i64 a0_0) := (blk_cell BK110101.out 0).trans rfl
                  have hcz20_1 : wc.cell? ⟨gb110101, 1, none⟩ = some (.int .i64 a0_1) := (blk_cell BK110101.out 1).trans rfl
                  have hcz20_2 : wc.cell? ⟨gb110101, 2, none⟩ = some (.int .i64 a0_2) := (blk_cell BK110101.out 2).trans rfl
                  have hcz20_3 : wc.cell? ⟨gb110101, 3, none⟩ = some (.int .i64 a0_3) := (blk_cell BK110101.out 3).trans rfl
                  have hcz20_4 : wc.cell? ⟨gb110101, 4, none⟩ = some (.int .i64 a0_4) := (blk_cell BK110101.out 4).trans rfl
                  have hcz20_5 : wc.cell? ⟨gb110101, 5, none⟩ = some (.slice A0_5 l0_5.length c0_5) := (blk_cell BK110101.out 5).trans rfl
                  have hfz20_0 := blk_frozen BK110101.out 0
                  have hfz20_1 := blk_frozen BK110101.out 1
                  have hfz20_2 := blk_frozen BK110101.out 2
                  have hfz20_3 := blk_frozen BK110101.out 3
                  have hfz20_4 := blk_frozen BK110101.out 4
                  have hfz20_5 := blk_frozen BK110101.out 5
                  have p110106 : 0 ≤ ((ji14) : Int) := of_decide_eq_true (by first | (with_reducible assumption) | assumption)
                  have q110106 : (ji14) < (l0_5.length : Int) := of_decide_eq_true (by first | (with_reducible assumption) | assumption)
                  obtain ⟨ad110106, e110106, hx110106_0⟩ := Kd.at_int HR0_5.out (ji14) p110106 q110106
                  cases e110106
                  replace hx110106_0 := (HB.out.cell (World.block_lt_of_cell? w _ hx110106_0)).trans hx110106_0
                  replace p110106 := eq_true p110106
                  replace q110106 := eq_true q110106
                  have p110107 : 0 ≤ ((ji14) : Int) := of_decide_eq_true (by first | (with_reducible assumption) | assumption)
                  have q110107 : (ji14) < (l0_5.length : Int) := of_decide_eq_true (by first | (with_reducible assumption) | assumption)
                  obtain ⟨ad110107, e110107, hx110107_0⟩ := Kd.at_int HR0_5.out (ji14) p110107 q110107
                  obtain rfl : ad110106 = ad110107 := (by injection e110107)
                  replace hx110107_0 := (HB.out.cell (World.block_lt_of_cell? w _ hx110107_0)).trans hx110107_0
                  replace p110107 := eq_true p110107
                  replace q110107 := eq_true q110107
                  go_wp2_with (first | ((with_reducible refine gate_dst (N := 46) rfl ?_); refine Kd.R_lit (Kd.int .i64) _ 3 ?hg (N := 46) ?hd (xs := ([rd l0_5 (ji14), Int.tmod (wrap64 ((rd l0_5 (ji14)) + 1)) a0_0] : List Int)) (inner := [.int .i64 (rd l0_5 (ji14)), .int .i64 (Int.tmod (wrap64 ((rd l0_5 (ji14)) + 1)) a0_0)]) (ok := fun _ => True) (okp := fun _ => True) ?hr ?hp (fun _ hk => hk) trivial (Below.refl _ _) (Nat.le_refl _) (by simp) ?_; (case hd => rfl); (case hg => rfl); (case hr => first | (go_simp; done) | (go_simp; rfl)); (case hp => exact (Reps.one (show Kd.M (Kd.int .i64) _ _ _ (rd l0_5 (ji14)) [.int .i64 (rd l0_5 (ji14))] from rfl) (Reps.one (show Kd.M (Kd.int .i64) _ _ _ (Int.tmod (wrap64 ((rd l0_5 (ji14)) + 1)) a0_0) [.int .i64 (Int.tmod (wrap64 ((rd l0_5 (ji14)) + 1)) a0_0)] from rfl) (Reps.none _ _)))); intro v110109 w21 ho22 hb hg_ hnew_; clear hg_ hnew_; (first | rw [← Ny110108.out] at ho22 | (simp only [Int.reduceToNat] at ho22; rw [← Ny110108.out] at ho22)); have n0_ := Aside0.mk (Kd.R_lower ho22 (below_size (by repeat (first | (with_reducible first | exact HB.out | apply below_alloc | apply pw_below_drewN | apply below_drew1 | refine below_set ?_ GE110101.out) | exact HB.out)))); have n1_ := Aside0.mk (blk_below (g := gb110101) (o := .cells #[.int .i64 a0_0, .int .i64 a0_1, .int .i64 a0_2, .int .i64 a0_3, .int .i64 a0_4, .slice (some ad110106) l0_5.length c0_5] 35 (0, 0)) (by (with_reducible repeat (first | refine blk_drewN ?_ _ | refine blk_drew ?_ | refine blk_alloc ?_ _)); exact BK110101.out) hb); have n2_ := Aside0.mk (below_step (by repeat (first | (with_reducible first | exact HB.out | apply below_alloc | apply pw_below_drewN | apply below_drew1 | refine below_set ?_ GE110101.out) | exact HB.out)) hb); clear BK110101; clear HB; have HO110110 := n0_; have BK110101 := n1_; have HB := n2_; clear n0_ n1_ n2_; clear hb ho22))
                  go_ret
                  exact ⟨_, by first | rfl | (simp [errW_none, errW_some] <;> rfl) | (simp only [← hji14]; first | rfl | (simp [errW_none, errW_some] <;> rfl)) | (simp [*, errW_none, errW_some] <;> rfl), by (with_reducible repeat (first | apply Kd.R_alloc | apply Kd.R_drewN | apply Kd.R_drew)); exact HO110110.out, by repeat (first | (with_reducible first | exact HB.out | apply below_alloc | apply pw_below_drewN | apply below_drew1 | refine below_set ?_ GE110101.out) | exact HB.out)⟩
            · rw [if_neg c16] at H
              exact absurd H (by simp)
          · rw [if_neg c15] at H
            exact absurd H (by simp)

/-! ### plaitingref3_Voters: function 56 -/
def plaitingref3_Voters.l0 : Nat → List Int → List Int → Int → Int → Int → Int → Int → Int → List Int → Option (List Int)
  | 0, _, _, _, _, _, _, _, _, _ => none
  | k + 1, x5, x6, x7, x112102000, x112102001, x112102002, x112102003, x112102004, x112102005 => if x7 < x112102000 then ((plaitingref3_In.f k x6 x7).bind fun t112105 => (if t112105 = true then (plaitingref3_Voters.l0 k x5 x6 (wrap64 (x7 + 1)) x112102000 x112102001 x112102002 x112102003 x112102004 x112102005) else (if x5.length < 17592186044416 then (plaitingref3_Voters.l0 k (x5 ++ [x7]) x6 (wrap64 (x7 + 1)) x112102000 x112102001 x112102002 x112102003 x112102004 x112102005) else (none)))) else (some x5)
def plaitingref3_Voters.f (k : Nat) (a0_0 : Int) (a0_1 : Int) (a0_2 : Int) (a0_3 : Int) (a0_4 : Int) (l0_5 : List Int) (a1 : Int) : Option (List Int) := (plaitingref3_Owners.f k a0_0 a0_1 a0_2 a0_3 a0_4 l0_5 a1).bind fun t112102 => (plaitingref3_Voters.l0 k ([] : List Int) t112102 0 a0_0 a0_1 a0_2 a0_3 a0_4 l0_5)
theorem plaitingref3_Voters.mono_l : ∀ k, (∀ y0 y1 y2 y3 y4 y5 y6 y7 y8, LeO (plaitingref3_Voters.l0 k y0 y1 y2 y3 y4 y5 y6 y7 y8) (plaitingref3_Voters.l0 (k + 1) y0 y1 y2 y3 y4 y5 y6 y7 y8))
  | 0 => fun _ _ _ _ _ _ _ _ _ r h => by simp [plaitingref3_Voters.l0] at h
  | k + 1 => by
    have ih0 := plaitingref3_Voters.mono_l k
    · intro y0 y1 y2 y3 y4 y5 y6 y7 y8
      unfold plaitingref3_Voters.l0
      repeat' first
      | (with_reducible exact ih0 _ _ _ _ _ _ _ _ _)
      | (with_reducible exact plaitingref3_In.mono _ _ _)
      | (with_reducible exact plaitingref3_Owners.mono _ _ _ _ _ _ _ _)
      | (with_reducible exact LeO.refl _)
      | (with_reducible exact LeO.none _)
      | (with_reducible refine LeO.ite ?_ ?_)
      | (with_reducible refine LeO.bind ?_ (fun _ => ?_))
      | exact ih0 _ _ _ _ _ _ _ _ _
      | exact plaitingref3_In.mono _ _ _
      | exact plaitingref3_Owners.mono _ _ _ _ _ _ _ _
      | exact LeO.none _
      | refine LeO.ite ?_ ?_
      | refine LeO.bind ?_ (fun _ => ?_)
theorem plaitingref3_Voters.mono : ∀ a0 a1 a2 a3 a4 a5 a6 k, LeO (plaitingref3_Voters.f k a0 a1 a2 a3 a4 a5 a6) (plaitingref3_Voters.f (k + 1) a0 a1 a2 a3 a4 a5 a6) := by
  intro a0 a1 a2 a3 a4 a5 a6 k
  have ih0 := plaitingref3_Voters.mono_l k
  unfold plaitingref3_Voters.f
  repeat' first
      | (with_reducible exact ih0 _ _ _ _ _ _ _ _ _)
      | (with_reducible exact plaitingref3_In.mono _ _ _)
      | (with_reducible exact plaitingref3_Owners.mono _ _ _ _ _ _ _ _)
      | (with_reducible exact LeO.refl _)
      | (with_reducible exact LeO.none _)
      | (with_reducible refine LeO.ite ?_ ?_)
      | (with_reducible refine LeO.bind ?_ (fun _ => ?_))
      | exact ih0 _ _ _ _ _ _ _ _ _
      | exact plaitingref3_In.mono _ _ _
      | exact plaitingref3_Owners.mono _ _ _ _ _ _ _ _
      | exact LeO.none _
      | refine LeO.ite ?_ ?_
      | refine LeO.bind ?_ (fun _ => ?_)
set_option maxHeartbeats 8000000 in
set_option maxRecDepth 100000 in
theorem plaitingref3_Voters.calls (k : Nat) (a0_0 : Int) (a0_1 : Int) (a0_2 : Int) (a0_3 : Int) (a0_4 : Int) (A0_5 : Option Addr) (c0_5 : Nat) (l0_5 : List Int) (a1 : Int) (r : List Int) (w : World) (hr0_5 : Kd.C (Kd.int .i64) w A0_5 l0_5.length l0_5) (hc0_5 : l0_5.length ≤ c0_5) (h : plaitingref3_Voters.f k a0_0 a0_1 a0_2 a0_3 a0_4 l0_5 a1 = some r) :
    Calls Try.prog 56 #[.agg #[.int .i64 a0_0, .int .i64 a0_1, .int .i64 a0_2, .int .i64 a0_3, .int .i64 a0_4, .slice A0_5 l0_5.length c0_5], .int .i64 a1] w fun e w' => ∃ v0_ : Value, e = .returned (v0_) ∧ Kd.R (Kd.int .i64) 3 w' w.heap.size (fun _ => True) v0_ r ∧ Below w.heap.size w w' := by
  have hu35 := Try.underlying35
  have HR0_5 := Aside0.mk hr0_5
  have HC0_5 := Aside0.mk hc0_5
  clear hr0_5 hc0_5
  have HB := Aside0.mk (Below.refl w.heap.size w)
  have H : ((plaitingref3_Owners.f k a0_0 a0_1 a0_2 a0_3 a0_4 l0_5 a1).bind fun t112102 => (plaitingref3_Voters.l0 k ([] : List Int) t112102 0 a0_0 a0_1 a0_2 a0_3 a0_4 l0_5)) = some r := h
  clear h
  replace H := Option.bind_eq_some_iff.mp H
  obtain ⟨t112102, A30, H⟩ := H
  replace H : (plaitingref3_Voters.l0 k ([] : List Int) t112102 0 a0_0 a0_1 a0_2 a0_3 a0_4 l0_5) = some r := H
  have A3 := Aside0.mk A30
  clear A30
  have H' := Aside0.mk H
  clear H
  go_enter Try.func56, Try.ntmps56
  go_wp2_with (first | ((with_reducible refine gate_dst (N := 2) rfl ?_); refine box_event ?hg (N := 2) ?hd (cs := #[.int .i64 a0_0, .int .i64 a0_1, .int .i64 a0_2, .int .i64 a0_3, .int .i64 a0_4, .slice A0_5 l0_5.length c0_5]) (t := 35) ?hr ?_; (case hd => rfl); (case hg => rfl); (case hr => first | (go_simp; done) | (go_simp; rfl)); intro gb112101 hg w4 hbox hb; have n0_ := Aside0.mk (below_step (by repeat (first | (with_reducible first | exact HB.out | apply below_alloc | apply pw_below_drewN | apply below_drew1) | exact HB.out)) hb); have n1_ := Aside0.mk (hbox); have n2_ := Aside0.mk ((by rw [hg]; exact (below_size (by repeat (first | (with_reducible first | exact HB.out | apply below_alloc | apply pw_below_drewN | apply below_drew1) | exact HB.out))) : w.heap.size ≤ gb112101)); have n3_ := Aside0.mk ((by rw [hg]; exact (below_size (by repeat (first | (with_reducible first | exact HB.out | apply below_alloc | apply pw_below_drewN | apply below_drew1) | exact HB.out))) : w.heap.size ≤ gb112101)); clear HB; have HB := n0_; have BK112101 := n1_; have GW112101 := n2_; have GE112101 := n3_; clear n0_ n1_ n2_ n3_; clear hb hbox hg; have hcz5_0 : w4.cell? ⟨gb112101, 0, none⟩ = some (.int .i64 a0_0) := (blk_cell BK112101.out 0).trans rfl; have hcz5_1 : w4.cell? ⟨gb112101, 1, none⟩ = some (.int .i64 a0_1) := (blk_cell BK112101.out 1).trans rfl; have hcz5_2 : w4.cell? ⟨gb112101, 2, none⟩ = some (.int .i64 a0_2) := (blk_cell BK112101.out 2).trans rfl; have hcz5_3 : w4.cell? ⟨gb112101, 3, none⟩ = some (.int .i64 a0_3) := (blk_cell BK112101.out 3).trans rfl; have hcz5_4 : w4.cell? ⟨gb112101, 4, none⟩ = some (.int .i64 a0_4) := (blk_cell BK112101.out 4).trans rfl; have hcz5_5 : w4.cell? ⟨gb112101, 5, none⟩ = some (.slice A0_5 l0_5.length c0_5) := (blk_cell BK112101.out 5).trans rfl; have hfz5_0 := blk_frozen BK112101.out 0; have hfz5_1 := blk_frozen BK112101.out 1; have hfz5_2 := blk_frozen BK112101.out 2; have hfz5_3 := blk_frozen BK112101.out 3; have hfz5_4 := blk_frozen BK112101.out 4; have hfz5_5 := blk_frozen BK112101.out 5) | ((with_reducible refine gate_callee (f := 55) rfl ?_); refine goesL_ (some 10) rfl rfl Try.func55 (by kernel_rfl) rfl #[.agg #[.int .i64 a0_0, .int .i64 a0_1, .int .i64 a0_2, .int .i64 a0_3, .int .i64 a0_4, .slice A0_5 l0_5.length c0_5], .int .i64 a1] rfl (by (try simp only [List.map_toArray, List.map_cons, List.map_nil]); first | done | rfl | (simp only [List.length_drop, List.length_take]; rfl)) ?_; (with_reducible refine (plaitingref3_Owners.calls k a0_0 a0_1 a0_2 a0_3 a0_4 _ _ l0_5 a1 t112102 _ ?side1 ?side2 A3.out).mono ?_); (case side1 => repeat (first | exact (Kd.C_below HR0_5.out HB.out) | (with_reducible refine Kd.C_alloc ?_ _) | (with_reducible refine Kd.C_drewN ?_ _) | (with_reducible refine Kd.C_drew ?_))); (case side2 => exact HC0_5.out); rintro e w6 ⟨v112103, rfl, ho0, hb⟩; refine ⟨_, rfl, ?_⟩; have n0_ := Aside0.mk (Kd.R_lower ho0 (below_size (by repeat (first | (with_reducible first | exact HB.out | apply below_alloc | apply pw_below_drewN | apply below_drew1 | refine below_set ?_ GE112101.out) | exact HB.out)))); have n1_ := Aside0.mk (blk_below (g := gb112101) (o := .cells #[.int .i64 a0_0, .int .i64 a0_1, .int .i64 a0_2, .int .i64 a0_3, .int .i64 a0_4, .slice A0_5 l0_5.length c0_5] 35 (0, 0)) (by (with_reducible repeat (first | refine blk_drewN ?_ _ | refine blk_drew ?_ | refine blk_alloc ?_ _)); exact BK112101.out) hb); have n2_ := Aside0.mk (below_step (by repeat (first | (with_reducible first | exact HB.out | apply below_alloc | apply pw_below_drewN | apply below_drew1 | refine below_set ?_ GE112101.out) | exact HB.out)) hb); clear BK112101; clear HB; have HO112104 := n0_; have BK112101 := n1_; have HB := n2_; clear n0_ n1_ n2_; (try clear hb); (try clear hb2); (try clear hk); (try clear hi); (try clear ho0)))
  go_loopg [5, 7] k (fun kq v5 v7 w' => ∃ (x5_1 : List Int) (x7_1 : Int), v7 = .int .i64 x7_1 ∧ Aside0 (plaitingref3_Voters.l0 kq x5_1 t112102 x7_1 a0_0 a0_1 a0_2 a0_3 a0_4 l0_5 = some r) ∧ Aside0 (kq ≤ k) ∧ Aside0 (Kd.R (Kd.int .i64) 3 w' w.heap.size (fun k_ => some k_ ≠ (v112103 : Value).ownBlock) v5 x5_1) ∧ Aside0 (Kd.R (Kd.int .i64) 3 w' w.heap.size (fun k_ => some k_ ≠ (v5 : Value).ownBlock) v112103 t112102) ∧ Aside0 (w'.heap[gb112101]? = some (.cells #[.int .i64 a0_0, .int .i64 a0_1, .int .i64 a0_2, .int .i64 a0_3, .int .i64 a0_4, (.slice A0_5 l0_5.length c0_5)] 35 (0, 0))) ∧ Aside0 (Below w.heap.size w w'))
  case atStart => exact ⟨(([] : List Int)), (0), (by first | rfl | (simp; done) | (simp [*]; done)), H', ⟨Nat.le_refl _⟩, ⟨by first | exact Kd.R_nil _ _ _ _ _ | exact Kd.N_nil _ _ _ _ _ | exact Kd.V_nil _ _ _ _ _ | exact Kd.Q_nil _ _ _ _ _ | exact Kd.S_nil _ _ _ _ _⟩, ⟨by (with_reducible repeat (first | apply Kd.R_alloc | apply Kd.R_drewN | apply Kd.R_drew)); exact Kd.R_mono HO112104.out (fun _ hk => (by simp [Value.ownBlock]))⟩, ⟨by (with_reducible repeat (first | refine blk_drewN ?_ _ | refine blk_drew ?_ | refine blk_alloc ?_ _)); exact BK112101.out⟩, ⟨by repeat (first | (with_reducible first | exact HB.out | apply below_alloc | apply pw_below_drewN | apply below_drew1 | refine below_set ?_ GE112101.out) | exact HB.out)⟩⟩
  case round =>
    clear H'
    try clear p2
    try clear c5
    try clear hcz5_0
    try clear hcz5_1
    try clear hcz5_2
    try clear hcz5_3
    try clear hcz5_4
    try clear hcz5_5
    try clear hfz5_0
    try clear hfz5_1
    try clear hfz5_2
    try clear hfz5_3
    try clear hfz5_4
    try clear hfz5_5
    obtain ⟨x5_1, x7_1, rfl, HA, HK1, HO_5, HO_6, BK112101, HB⟩ := hrel
    cases gk with
    | zero => exact absurd HA.out (by simp [plaitingref3_Voters.l0])
    | succ k1 =>
      have H := HA.out
      clear HA
      simp only [plaitingref3_Voters.l0] at H
      by_cases c7 : x7_1 < a0_0
      · rw [if_pos c7] at H
        have c7b0 : decide (x7_1 < a0_0) = true := decide_eq_true c7
        clear c7
        replace H := Option.bind_eq_some_iff.mp H
        obtain ⟨t112105, A80, H⟩ := H
        replace H : (if t112105 = true then (plaitingref3_Voters.l0 k1 x5_1 t112102 (wrap64 (x7_1 + 1)) a0_0 a0_1 a0_2 a0_3 a0_4 l0_5) else (if x5_1.length < 17592186044416 then (plaitingref3_Voters.l0 k1 (x5_1 ++ [x7_1]) t112102 (wrap64 (x7_1 + 1)) a0_0 a0_1 a0_2 a0_3 a0_4 l0_5) else (none))) = some r := H
        have A8 := Aside0.mk A80
        clear A80
        by_cases c9 : t112105 = true
        · subst c9
          have H1 : (plaitingref3_Voters.l0 k1 x5_1 t112102 (wrap64 (x7_1 + 1)) a0_0 a0_1 a0_2 a0_3 a0_4 l0_5) = some r := by rw [if_pos rfl] at H; exact H
          clear H
          have H := H1
          clear H1
          have H' := Aside0.mk H
          clear H
          have hcz10_0 : wr.cell? ⟨gb112101, 0, none⟩ = some (.int .i64 a0_0) := (blk_cell BK112101.out 0).trans rfl
          have hcz10_1 : wr.cell? ⟨gb112101, 1, none⟩ = some (.int .i64 a0_1) := (blk_cell BK112101.out 1).trans rfl
          have hcz10_2 : wr.cell? ⟨gb112101, 2, none⟩ = some (.int .i64 a0_2) := (blk_cell BK112101.out 2).trans rfl
          have hcz10_3 : wr.cell? ⟨gb112101, 3, none⟩ = some (.int .i64 a0_3) := (blk_cell BK112101.out 3).trans rfl
          have hcz10_4 : wr.cell? ⟨gb112101, 4, none⟩ = some (.int .i64 a0_4) := (blk_cell BK112101.out 4).trans rfl
          have hcz10_5 : wr.cell? ⟨gb112101, 5, none⟩ = some (.slice A0_5 l0_5.length c0_5) := (blk_cell BK112101.out 5).trans rfl
          have hfz10_0 := blk_frozen BK112101.out 0
          have hfz10_1 := blk_frozen BK112101.out 1
          have hfz10_2 := blk_frozen BK112101.out 2
          have hfz10_3 := blk_frozen BK112101.out 3
          have hfz10_4 := blk_frozen BK112101.out 4
          have hfz10_5 := blk_frozen BK112101.out 5
          obtain ⟨Ao11, co11, eo11⟩ := Kd.R_slice HO_6.out
          subst eo11
          go_wp2_with (first | ((with_reducible refine gate_callee (f := 37) rfl ?_); refine goesL_ (some 19) rfl rfl Try.func37 (by kernel_rfl) rfl #[.slice Ao11 t112102.length co11, .int .i64 x7_1] rfl (by (try simp only [List.map_toArray, List.map_cons, List.map_nil]); first | done | rfl | (simp only [List.length_drop, List.length_take]; rfl)) ?_; (with_reducible refine (plaitingref3_In.calls k1 _ _ t112102 x7_1 true _ ?side1 ?side2 A8.out).mono ?_); (case side1 => repeat (first | exact (Kd.R_reads' HO_6.out).2.2 | (with_reducible refine Kd.C_alloc ?_ _) | (with_reducible refine Kd.C_drewN ?_ _) | (with_reducible refine Kd.C_drew ?_))); (case side2 => exact (Kd.R_reads' HO_6.out).2.1); rintro e w' ⟨rfl, ⟨nd, rfl⟩⟩; refine ⟨_, rfl, ?_⟩))
          go_roundg k1
          case measure => have := HK1.out; omega
          case rel => exact ⟨(x5_1), (wrap64 (x7_1 + 1)), (by first | rfl | (simp; done) | (simp [*]; done)), H', ⟨by have := HK1.out; omega⟩, ⟨by (with_reducible repeat (first | apply Kd.R_alloc | apply Kd.R_drewN | apply Kd.R_drew)); exact HO_5.out⟩, ⟨by (with_reducible repeat (first | apply Kd.R_alloc | apply Kd.R_drewN | apply Kd.R_drew)); exact HO_6.out⟩, ⟨by (with_reducible repeat (first | refine blk_drewN ?_ _ | refine blk_drew ?_ | refine blk_alloc ?_ _)); exact BK112101.out⟩, ⟨by repeat (first | (with_reducible first | exact HB.out | apply below_alloc | apply pw_below_drewN | apply below_drew1 | refine below_set ?_ GE112101.out) | exact HB.out)⟩⟩
        · replace c9 := Bool.eq_false_iff.mpr c9
          subst c9
          have H1 : (if x5_1.length < 17592186044416 then (plaitingref3_Voters.l0 k1 (x5_1 ++ [x7_1]) t112102 (wrap64 (x7_1 + 1)) a0_0 a0_1 a0_2 a0_3 a0_4 l0_5) else (none)) = some r := by rw [if_neg (show ¬ (false = true) by decide)] at H; exact H
          clear H
          have H := H1
          clear H1
          by_cases c12 : x5_1.length < 17592186044416
          · rw [if_pos c12] at H
            have LMc12 := Aside0.mk c12
            clear c12
            obtain ⟨y112106, hy112106⟩ : ∃ y_ : List Int, y_ = (x5_1 ++ [x7_1]) := ⟨_, rfl⟩
            replace H : (plaitingref3_Voters.l0 k1 y112106 t112102 (wrap64 (x7_1 + 1)) a0_0 a0_1 a0_2 a0_3 a0_4 l0_5) = some r := by first | (rw [hy112106]; with_reducible exact H) | (have H2_ := (Option.bind_some _ _).symm.trans H; rw [hy112106]; with_reducible exact H2_) | (have H2_ := (Option.bind_some _ _).symm.trans H; with_reducible exact H2_) | with_reducible exact H | (rw [hy112106]; exact H) | exact H
            have Ny112106 := Aside0.mk hy112106
            clear hy112106
            have H' := Aside0.mk H
            clear H
            have hcz13_0 : wr.cell? ⟨gb112101, 0, none⟩ = some (.int .i64 a0_0) := (blk_cell BK112101.out 0).trans rfl
            have hcz13_1 : wr.cell? ⟨gb112101, 1, none⟩ = some (.int .i64 a0_1) := (blk_cell BK112101.out 1).trans rfl
            have hcz13_2 : wr.cell? ⟨gb112101, 2, none⟩ = some (.int .i64 a0_2) := (blk_cell BK112101.out 2).trans rfl
            have hcz13_3 : wr.cell? ⟨gb112101, 3, none⟩ = some (.int .i64 a0_3) := (blk_cell BK112101.out 3).trans rfl
            have hcz13_4 : wr.cell? ⟨gb112101, 4, none⟩ = some (.int .i64 a0_4) := (blk_cell BK112101.out 4).trans rfl
            have hcz13_5 : wr.cell? ⟨gb112101, 5, none⟩ = some (.slice A0_5 l0_5.length c0_5) := (blk_cell BK112101.out 5).trans rfl
            have hfz13_0 := blk_frozen BK112101.out 0
            have hfz13_1 := blk_frozen BK112101.out 1
            have hfz13_2 := blk_frozen BK112101.out 2
            have hfz13_3 := blk_frozen BK112101.out 3
            have hfz13_4 := blk_frozen BK112101.out 4
            have hfz13_5 := blk_frozen BK112101.out 5
            obtain ⟨Ao14, co14, eo14⟩ := Kd.R_slice HO_6.out
            subst eo14
            go_wp2_with (first | ((with_reducible refine gate_callee (f := 37) rfl ?_); refine goesL_ (some 19) rfl rfl Try.func37 (by kernel_rfl) rfl #[.slice Ao14 t112102.length co14, .int .i64 x7_1] rfl (by (try simp only [List.map_toArray, List.map_cons, List.map_nil]); first | done | rfl | (simp only [List.length_drop, List.length_take]; rfl)) ?_; (with_reducible refine (plaitingref3_In.calls k1 _ _ t112102 x7_1 false _ ?side1 ?side2 A8.out).mono ?_); (case side1 => repeat (first | exact (Kd.R_reads' HO_6.out).2.2 | (with_reducible refine Kd.C_alloc ?_ _) | (with_reducible refine Kd.C_drewN ?_ _) | (with_reducible refine Kd.C_drew ?_))); (case side2 => exact (Kd.R_reads' HO_6.out).2.1); rintro e w' ⟨rfl, ⟨nd, rfl⟩⟩; refine ⟨_, rfl, ?_⟩) | ((with_reducible refine gate_builtin (b := .append) (xs := #[.tmp 21, .tmp 23]) rfl ?_); at_builtin; refine Kd.R_append (Kd.int .i64) (w0 := w) w.heap.size rfl (.tmp 21) (.tmp 23) 33 3 (.int .i64 0) 8 rfl Try.underlying33 info3 rfl (by decide) (by omega) u5 x5_1 x7_1 [.int .i64 x7_1] (fun k_ => some k_ ≠ (.slice Ao14 t112102.length co14 : Value).ownBlock) (fun _ => False) rfl rfl ?aP (fun _ hk => hk.elim) ?aF ?aO ?aB ?aS ?aL ?_; (case aP => exact rfl); (case aB => exact (by repeat (first | (with_reducible first | exact HB.out | apply below_alloc | apply pw_below_drewN | apply below_drew1 | refine below_set ?_ GE112101.out) | exact HB.out))); (case aF => exact (fun k_ hk => Kd.fresh' (Kd.R_lt (by (with_reducible repeat (first | apply Kd.R_alloc | apply Kd.R_drewN | apply Kd.R_drew)); exact HO_6.out)) k_ hk)); (case aO => exact (by (with_reducible repeat (first | apply Kd.R_alloc | apply Kd.R_drewN | apply Kd.R_drew)); exact HO_5.out)); (case aS => exact (below_size (by repeat (first | (with_reducible first | exact HB.out | apply below_alloc | apply pw_below_drewN | apply below_drew1 | refine below_set ?_ GE112101.out) | exact HB.out)))); (case aL => have := LMc12.out; omega); intro v112107 w15 ho hb hg hat; rw [← Ny112106.out] at ho; have n0_ := Aside0.mk (Kd.R_after (ok := (fun _ => True)) (by (with_reducible repeat (first | apply Kd.R_alloc | apply Kd.R_drewN | apply Kd.R_drew)); exact Kd.R_mono HO_6.out (fun _ hk => ⟨trivial, hk⟩)) hg hat); have n1_ := Aside0.mk (blk_grown (g := gb112101) (o := .cells #[.int .i64 a0_0, .int .i64 a0_1, .int .i64 a0_2, .int .i64 a0_3, .int .i64 a0_4, .slice A0_5 l0_5.length c0_5] 35 (0, 0)) (by (with_reducible repeat (first | refine blk_drewN ?_ _ | refine blk_drew ?_ | refine blk_alloc ?_ _)); exact BK112101.out) hg (Kd.R_ne HO_5.out BK112101.out (by decide))); have n2_ := Aside0.mk (hb); have n3_ := Aside0.mk (ho); clear HO_6; clear BK112101; clear HB; clear HO_5; have HO_6 := n0_; have BK112101 := n1_; have HB := n2_; have HO112108 := n3_; clear n0_ n1_ n2_ n3_; clear ho hb hg hat))
            go_roundg k1
            case measure => have := HK1.out; omega
            case rel => exact ⟨(y112106), (wrap64 (x7_1 + 1)), (by first | rfl | (simp; done) | (simp [*]; done)), H', ⟨by have := HK1.out; omega⟩, ⟨by (with_reducible repeat (first | apply Kd.R_alloc | apply Kd.R_drewN | apply Kd.R_drew)); exact HO112108.out⟩, ⟨by (with_reducible repeat (first | apply Kd.R_alloc | apply Kd.R_drewN | apply Kd.R_drew)); exact Kd.R_mono HO_6.out (fun _ hk => hk.2)⟩, ⟨by (with_reducible repeat (first | refine blk_drewN ?_ _ | refine blk_drew ?_ | refine blk_alloc ?_ _)); exact BK112101.out⟩, ⟨by repeat (first | (with_reducible first | exact HB.out | apply below_alloc | apply pw_below_drewN | apply below_drew1 | refine below_set ?_ GE112101.out) | exact HB.out)⟩⟩
          · rw [if_neg c12] at H
            exact absurd H (by simp)
      · rw [if_neg c7] at H
        have c7b0 : decide (x7_1 < a0_0) = false := decide_eq_false c7
        clear c7
        obtain rfl := Option.some.inj H
        have hcz16_0 : wr.cell? ⟨gb112101, 0, none⟩ = some (.int .i64 a0_0) := (blk_cell BK112101.out 0).trans rfl
        have hcz16_1 : wr.cell? ⟨gb112101, 1, none⟩ = some (.int .i64 a0_1) := (blk_cell BK112101.out 1).trans rfl
        have hcz16_2 : wr.cell? ⟨gb112101, 2, none⟩ = some (.int .i64 a0_2) := (blk_cell BK112101.out 2).trans rfl
        have hcz16_3 : wr.cell? ⟨gb112101, 3, none⟩ = some (.int .i64 a0_3) := (blk_cell BK112101.out 3).trans rfl
        have hcz16_4 : wr.cell? ⟨gb112101, 4, none⟩ = some (.int .i64 a0_4) := (blk_cell BK112101.out 4).trans rfl
        have hcz16_5 : wr.cell? ⟨gb112101, 5, none⟩ = some (.slice A0_5 l0_5.length c0_5) := (blk_cell BK112101.out 5).trans rfl
        have hfz16_0 := blk_frozen BK112101.out 0
        have hfz16_1 := blk_frozen BK112101.out 1
        have hfz16_2 := blk_frozen BK112101.out 2
        have hfz16_3 := blk_frozen BK112101.out 3
        have hfz16_4 := blk_frozen BK112101.out 4
        have hfz16_5 := blk_frozen BK112101.out 5
        go_wp2
        go_ret
        exact ⟨_, by first | rfl | (simp [errW_none, errW_some] <;> rfl) | (simp [*, errW_none, errW_some] <;> rfl), by (with_reducible repeat (first | apply Kd.R_alloc | apply Kd.R_drewN | apply Kd.R_drew)); exact Kd.R_mono HO_5.out (fun _ hk => trivial), by repeat (first | (with_reducible first | exact HB.out | apply below_alloc | apply pw_below_drewN | apply below_drew1 | refine below_set ?_ GE112101.out) | exact HB.out)⟩

/-! ### plaitingref3_Most: function 57 -/
def plaitingref3_Most.f (a0_0 : Int) (a0_1 : Int) (a0_2 : Int) (a0_3 : Int) (a0_4 : Int) (l0_5 : List Int) : Option (Int) := some (wrap64 ((wrap64 (Int.tdiv a0_0 2)) + 1))
set_option maxHeartbeats 8000000 in
set_option maxRecDepth 100000 in
theorem plaitingref3_Most.calls (a0_0 : Int) (a0_1 : Int) (a0_2 : Int) (a0_3 : Int) (a0_4 : Int) (A0_5 : Option Addr) (c0_5 : Nat) (l0_5 : List Int) (r : Int) (w : World) (hr0_5 : Kd.C (Kd.int .i64) w A0_5 l0_5.length l0_5) (hc0_5 : l0_5.length ≤ c0_5) (h : plaitingref3_Most.f a0_0 a0_1 a0_2 a0_3 a0_4 l0_5 = some r) :
    Calls Try.prog 57 #[.agg #[.int .i64 a0_0, .int .i64 a0_1, .int .i64 a0_2, .int .i64 a0_3, .int .i64 a0_4, .slice A0_5 l0_5.length c0_5]] w fun e w' => e = .returned (.int .i64 r) ∧ Below w.heap.size w w' := by
  have hu35 := Try.underlying35
  have HR0_5 := Aside0.mk hr0_5
  have HC0_5 := Aside0.mk hc0_5
  clear hr0_5 hc0_5
  have HB := Aside0.mk (Below.refl w.heap.size w)
  have H : (some (wrap64 ((wrap64 (Int.tdiv a0_0 2)) + 1))) = some r := h
  clear h
  obtain rfl := Option.some.inj H
  go_enter Try.func57, Try.ntmps57
  go_wp2_with (first | ((with_reducible refine gate_dst (N := 1) rfl ?_); refine box_event ?hg (N := 1) ?hd (cs := #[.int .i64 a0_0, .int .i64 a0_1, .int .i64 a0_2, .int .i64 a0_3, .int .i64 a0_4, .slice A0_5 l0_5.length c0_5]) (t := 35) ?hr ?_; (case hd => rfl); (case hg => rfl); (case hr => first | (go_simp; done) | (go_simp; rfl)); intro gb114101 hg w2 hbox hb; have n0_ := Aside0.mk (below_step (by repeat (first | (with_reducible first | exact HB.out | apply below_alloc | apply pw_below_drewN | apply below_drew1) | exact HB.out)) hb); have n1_ := Aside0.mk (hbox); have n2_ := Aside0.mk ((by rw [hg]; exact (below_size (by repeat (first | (with_reducible first | exact HB.out | apply below_alloc | apply pw_below_drewN | apply below_drew1) | exact HB.out))) : w.heap.size ≤ gb114101)); have n3_ := Aside0.mk ((by rw [hg]; exact (below_size (by repeat (first | (with_reducible first | exact HB.out | apply below_alloc | apply pw_below_drewN | apply below_drew1) | exact HB.out))) : w.heap.size ≤ gb114101)); clear HB; have HB := n0_; have BK114101 := n1_; have GW114101 := n2_; have GE114101 := n3_; clear n0_ n1_ n2_ n3_; clear hb hbox hg; have hcz3_0 : w2.cell? ⟨gb114101, 0, none⟩ = some (.int .i64 a0_0) := (blk_cell BK114101.out 0).trans rfl; have hcz3_1 : w2.cell? ⟨gb114101, 1, none⟩ = some (.int .i64 a0_1) := (blk_cell BK114101.out 1).trans rfl; have hcz3_2 : w2.cell? ⟨gb114101, 2, none⟩ = some (.int .i64 a0_2) := (blk_cell BK114101.out 2).trans rfl; have hcz3_3 : w2.cell? ⟨gb114101, 3, none⟩ = some (.int .i64 a0_3) := (blk_cell BK114101.out 3).trans rfl; have hcz3_4 : w2.cell? ⟨gb114101, 4, none⟩ = some (.int .i64 a0_4) := (blk_cell BK114101.out 4).trans rfl; have hcz3_5 : w2.cell? ⟨gb114101, 5, none⟩ = some (.slice A0_5 l0_5.length c0_5) := (blk_cell BK114101.out 5).trans rfl; have hfz3_0 := blk_frozen BK114101.out 0; have hfz3_1 := blk_frozen BK114101.out 1; have hfz3_2 := blk_frozen BK114101.out 2; have hfz3_3 := blk_frozen BK114101.out 3; have hfz3_4 := blk_frozen BK114101.out 4; have hfz3_5 := blk_frozen BK114101.out 5))
  go_ret
  exact ⟨by first | rfl | (simp [errW_none, errW_some] <;> rfl) | (simp [*, errW_none, errW_some] <;> rfl), by repeat (first | (with_reducible first | exact HB.out | apply below_alloc | apply pw_below_drewN | apply below_drew1 | refine below_set ?_ GE114101.out) | exact HB.out)⟩

/-! ### plaitingref3_Window: function 58 -/
def plaitingref3_Window.f (a0_0 : Int) (a0_1 : Int) (a0_2 : Int) (a0_3 : Int) (a0_4 : Int) (l0_5 : List Int) : Option (Int) := some (wrap64 (2 * a0_1))
set_option maxHeartbeats 8000000 in
set_option maxRecDepth 100000 in
theorem plaitingref3_Window.calls (a0_0 : Int) (a0_1 : Int) (a0_2 : Int) (a0_3 : Int) (a0_4 : Int) (A0_5 : Option Addr) (c0_5 : Nat) (l0_5 : List Int) (r : Int) (w : World) (hr0_5 : Kd.C (Kd.int .i64) w A0_5 l0_5.length l0_5) (hc0_5 : l0_5.length ≤ c0_5) (h : plaitingref3_Window.f a0_0 a0_1 a0_2 a0_3 a0_4 l0_5 = some r) :
    Calls Try.prog 58 #[.agg #[.int .i64 a0_0, .int .i64 a0_1, .int .i64 a0_2, .int .i64 a0_3, .int .i64 a0_4, .slice A0_5 l0_5.length c0_5]] w fun e w' => e = .returned (.int .i64 r) ∧ Below w.heap.size w w' := by
  have hu35 := Try.underlying35
  have HR0_5 := Aside0.mk hr0_5
  have HC0_5 := Aside0.mk hc0_5
  clear hr0_5 hc0_5
  have HB := Aside0.mk (Below.refl w.heap.size w)
  have H : (some (wrap64 (2 * a0_1))) = some r := h
  clear h
  obtain rfl := Option.some.inj H
  go_enter Try.func58, Try.ntmps58
  go_wp2_with (first | ((with_reducible refine gate_dst (N := 1) rfl ?_); refine box_event ?hg (N := 1) ?hd (cs := #[.int .i64 a0_0, .int .i64 a0_1, .int .i64 a0_2, .int .i64 a0_3, .int .i64 a0_4, .slice A0_5 l0_5.length c0_5]) (t := 35) ?hr ?_; (case hd => rfl); (case hg => rfl); (case hr => first | (go_simp; done) | (go_simp; rfl)); intro gb116101 hg w2 hbox hb; have n0_ := Aside0.mk (below_step (by repeat (first | (with_reducible first | exact HB.out | apply below_alloc | apply pw_below_drewN | apply below_drew1) | exact HB.out)) hb); have n1_ := Aside0.mk (hbox); have n2_ := Aside0.mk ((by rw [hg]; exact (below_size (by repeat (first | (with_reducible first | exact HB.out | apply below_alloc | apply pw_below_drewN | apply below_drew1) | exact HB.out))) : w.heap.size ≤ gb116101)); have n3_ := Aside0.mk ((by rw [hg]; exact (below_size (by repeat (first | (with_reducible first | exact HB.out | apply below_alloc | apply pw_below_drewN | apply below_drew1) | exact HB.out))) : w.heap.size ≤ gb116101)); clear HB; have HB := n0_; have BK116101 := n1_; have GW116101 := n2_; have GE116101 := n3_; clear n0_ n1_ n2_ n3_; clear hb hbox hg; have hcz3_0 : w2.cell? ⟨gb116101, 0, none⟩ = some (.int .i64 a0_0) := (blk_cell BK116101.out 0).trans rfl; have hcz3_1 : w2.cell? ⟨gb116101, 1, none⟩ = some (.int .i64 a0_1) := (blk_cell BK116101.out 1).trans rfl; have hcz3_2 : w2.cell? ⟨gb116101, 2, none⟩ = some (.int .i64 a0_2) := (blk_cell BK116101.out 2).trans rfl; have hcz3_3 : w2.cell? ⟨gb116101, 3, none⟩ = some (.int .i64 a0_3) := (blk_cell BK116101.out 3).trans rfl; have hcz3_4 : w2.cell? ⟨gb116101, 4, none⟩ = some (.int .i64 a0_4) := (blk_cell BK116101.out 4).trans rfl; have hcz3_5 : w2.cell? ⟨gb116101, 5, none⟩ = some (.slice A0_5 l0_5.length c0_5) := (blk_cell BK116101.out 5).trans rfl; have hfz3_0 := blk_frozen BK116101.out 0; have hfz3_1 := blk_frozen BK116101.out 1; have hfz3_2 := blk_frozen BK116101.out 2; have hfz3_3 := blk_frozen BK116101.out 3; have hfz3_4 := blk_frozen BK116101.out 4; have hfz3_5 := blk_frozen BK116101.out 5))
  go_ret
  exact ⟨by first | rfl | (simp [errW_none, errW_some] <;> rfl) | (simp [*, errW_none, errW_some] <;> rfl), by repeat (first | (with_reducible first | exact HB.out | apply below_alloc | apply pw_below_drewN | apply below_drew1 | refine below_set ?_ GE116101.out) | exact HB.out)⟩

/-! ### plaitingref3_Limit: function 59 -/
def plaitingref3_Limit.f (a0_0 : Int) (a0_1 : Int) (a0_2 : Int) (a0_3 : Int) (a0_4 : Int) (l0_5 : List Int) : Option (Int) := some (wrap64 ((wrap64 (4 * a0_0)) + 8))
set_option maxHeartbeats 8000000 in
set_option maxRecDepth 100000 in
theorem plaitingref3_Limit.calls (a0_0 : Int) (a0_1 : Int) (a0_2 : Int) (a0_3 : Int) (a0_4 : Int) (A0_5 : Option Addr) (c0_5 : Nat) (l0_5 : List Int) (r : Int) (w : World) (hr0_5 : Kd.C (Kd.int .i64) w A0_5 l0_5.length l0_5) (hc0_5 : l0_5.length ≤ c0_5) (h : plaitingref3_Limit.f a0_0 a0_1 a0_2 a0_3 a0_4 l0_5 = some r) :
    Calls Try.prog 59 #[.agg #[.int .i64 a0_0, .int .i64 a0_1, .int .i64 a0_2, .int .i64 a0_3, .int .i64 a0_4, .slice A0_5 l0_5.length c0_5]] w fun e w' => e = .returned (.int .i64 r) ∧ Below w.heap.size w w' := by
  have hu35 := Try.underlying35
  have HR0_5 := Aside0.mk hr0_5
  have HC0_5 := Aside0.mk hc0_5
  clear hr0_5 hc0_5
  have HB := Aside0.mk (Below.refl w.heap.size w)
  have H : (some (wrap64 ((wrap64 (4 * a0_0)) + 8))) = some r := h
  clear h
  obtain rfl := Option.some.inj H
  go_enter Try.func59, Try.ntmps59
  go_wp2_with (first | ((with_reducible refine gate_dst (N := 1) rfl ?_); refine box_event ?hg (N := 1) ?hd (cs := #[.int .i64 a0_0, .int .i64 a0_1, .int .i64 a0_2, .int .i64 a0_3, .int .i64 a0_4, .slice A0_5 l0_5.length c0_5]) (t := 35) ?hr ?_; (case hd => rfl); (case hg => rfl); (case hr => first | (go_simp; done) | (go_simp; rfl)); intro gb118101 hg w2 hbox hb; have n0_ := Aside0.mk (below_step (by repeat (first | (with_reducible first | exact HB.out | apply below_alloc | apply pw_below_drewN | apply below_drew1) | exact HB.out)) hb); have n1_ := Aside0.mk (hbox); have n2_ := Aside0.mk ((by rw [hg]; exact (below_size (by repeat (first | (with_reducible first | exact HB.out | apply below_alloc | apply pw_below_drewN | apply below_drew1) | exact HB.out))) : w.heap.size ≤ gb118101)); have n3_ := Aside0.mk ((by rw [hg]; exact (below_size (by repeat (first | (with_reducible first | exact HB.out | apply below_alloc | apply pw_below_drewN | apply below_drew1) | exact HB.out))) : w.heap.size ≤ gb118101)); clear HB; have HB := n0_; have BK118101 := n1_; have GW118101 := n2_; have GE118101 := n3_; clear n0_ n1_ n2_ n3_; clear hb hbox hg; have hcz3_0 : w2.cell? ⟨gb118101, 0, none⟩ = some (.int .i64 a0_0) := (blk_cell BK118101.out 0).trans rfl; have hcz3_1 : w2.cell? ⟨gb118101, 1, none⟩ = some (.int .i64 a0_1) := (blk_cell BK118101.out 1).trans rfl; have hcz3_2 : w2.cell? ⟨gb118101, 2, none⟩ = some (.int .i64 a0_2) := (blk_cell BK118101.out 2).trans rfl; have hcz3_3 : w2.cell? ⟨gb118101, 3, none⟩ = some (.int .i64 a0_3) := (blk_cell BK118101.out 3).trans rfl; have hcz3_4 : w2.cell? ⟨gb118101, 4, none⟩ = some (.int .i64 a0_4) := (blk_cell BK118101.out 4).trans rfl; have hcz3_5 : w2.cell? ⟨gb118101, 5, none⟩ = some (.slice A0_5 l0_5.length c0_5) := (blk_cell BK118101.out 5).trans rfl; have hfz3_0 := blk_frozen BK118101.out 0; have hfz3_1 := blk_frozen BK118101.out 1; have hfz3_2 := blk_frozen BK118101.out 2; have hfz3_3 := blk_frozen BK118101.out 3; have hfz3_4 := blk_frozen BK118101.out 4; have hfz3_5 := blk_frozen BK118101.out 5))
  go_ret
  exact ⟨by first | rfl | (simp [errW_none, errW_some] <;> rfl) | (simp [*, errW_none, errW_some] <;> rfl), by repeat (first | (with_reducible first | exact HB.out | apply below_alloc | apply pw_below_drewN | apply below_drew1 | refine below_set ?_ GE118101.out) | exact HB.out)⟩

/-! ### plaitingref3_Wire: function 60 -/
def plaitingref3_Wire.f (a0_0 : Int) (a0_1 : Int) (a0_2 : Int) (a0_3 : Int) (a0_4 : Int) (l0_5 : List Int) (a1 : Int) : Option (Int) := some (Int.tmod (wrap64 (a0_4 + a1)) 65536)
set_option maxHeartbeats 8000000 in
set_option maxRecDepth 100000 in
theorem plaitingref3_Wire.calls (a0_0 : Int) (a0_1 : Int) (a0_2 : Int) (a0_3 : Int) (a0_4 : Int) (A0_5 : Option Addr) (c0_5 : Nat) (l0_5 : List Int) (a1 : Int) (r : Int) (w : World) (hr0_5 : Kd.C (Kd.int .i64) w A0_5 l0_5.length l0_5) (hc0_5 : l0_5.length ≤ c0_5) (h : plaitingref3_Wire.f a0_0 a0_1 a0_2 a0_3 a0_4 l0_5 a1 = some r) :
    Calls Try.prog 60 #[.agg #[.int .i64 a0_0, .int .i64 a0_1, .int .i64 a0_2, .int .i64 a0_3, .int .i64 a0_4, .slice A0_5 l0_5.length c0_5], .int .i64 a1] w fun e w' => e = .returned (.int .i64 r) ∧ Below w.heap.size w w' := by
  have hu35 := Try.underlying35
  have HR0_5 := Aside0.mk hr0_5
  have HC0_5 := Aside0.mk hc0_5
  clear hr0_5 hc0_5
  have HB := Aside0.mk (Below.refl w.heap.size w)
  have H : (some (Int.tmod (wrap64 (a0_4 + a1)) 65536)) = some r := h
  clear h
  obtain rfl := Option.some.inj H
  go_enter Try.func60, Try.ntmps60
  go_wp2_with (first | ((with_reducible refine gate_dst (N := 2) rfl ?_); refine box_event ?hg (N := 2) ?hd (cs := #[.int .i64 a0_0, .int .i64 a0_1, .int .i64 a0_2, .int .i64 a0_3, .int .i64 a0_4, .slice A0_5 l0_5.length c0_5]) (t := 35) ?hr ?_; (case hd => rfl); (case hg => rfl); (case hr => first | (go_simp; done) | (go_simp; rfl)); intro gb120101 hg w3 hbox hb; have n0_ := Aside0.mk (below_step (by repeat (first | (with_reducible first | exact HB.out | apply below_alloc | apply pw_below_drewN | apply below_drew1) | exact HB.out)) hb); have n1_ := Aside0.mk (hbox); have n2_ := Aside0.mk ((by rw [hg]; exact (below_size (by repeat (first | (with_reducible first | exact HB.out | apply below_alloc | apply pw_below_drewN | apply below_drew1) | exact HB.out))) : w.heap.size ≤ gb120101)); have n3_ := Aside0.mk ((by rw [hg]; exact (below_size (by repeat (first | (with_reducible first | exact HB.out | apply below_alloc | apply pw_below_drewN | apply below_drew1) | exact HB.out))) : w.heap.size ≤ gb120101)); clear HB; have HB := n0_; have BK120101 := n1_; have GW120101 := n2_; have GE120101 := n3_; clear n0_ n1_ n2_ n3_; clear hb hbox hg; have hcz4_0 : w3.cell? ⟨gb120101, 0, none⟩ = some (.int .i64 a0_0) := (blk_cell BK120101.out 0).trans rfl; have hcz4_1 : w3.cell? ⟨gb120101, 1, none⟩ = some (.int .i64 a0_1) := (blk_cell BK120101.out 1).trans rfl; have hcz4_2 : w3.cell? ⟨gb120101, 2, none⟩ = some (.int .i64 a0_2) := (blk_cell BK120101.out 2).trans rfl; have hcz4_3 : w3.cell? ⟨gb120101, 3, none⟩ = some (.int .i64 a0_3) := (blk_cell BK120101.out 3).trans rfl; have hcz4_4 : w3.cell? ⟨gb120101, 4, none⟩ = some (.int .i64 a0_4) := (blk_cell BK120101.out 4).trans rfl; have hcz4_5 : w3.cell? ⟨gb120101, 5, none⟩ = some (.slice A0_5 l0_5.length c0_5) := (blk_cell BK120101.out 5).trans rfl; have hfz4_0 := blk_frozen BK120101.out 0; have hfz4_1 := blk_frozen BK120101.out 1; have hfz4_2 := blk_frozen BK120101.out 2; have hfz4_3 := blk_frozen BK120101.out 3; have hfz4_4 := blk_frozen BK120101.out 4; have hfz4_5 := blk_frozen BK120101.out 5))
  go_ret
  exact ⟨by first | rfl | (simp [errW_none, errW_some] <;> rfl) | (simp [*, errW_none, errW_some] <;> rfl), by repeat (first | (with_reducible first | exact HB.out | apply below_alloc | apply pw_below_drewN | apply below_drew1 | refine below_set ?_ GE120101.out) | exact HB.out)⟩

end Go.Proofs.Ytdkbalaphblobaa.P
