/- Printed by a program of this session (myprint) out of the translation: the functions as plain Lean functions, and that the calls compute them. What counts is Lean's check. -/
import Derived.Test.YtdkbalaphblobaaPx0
import Derived.Test.YtdkbalaphblobaaPx5
import Derived.Test.YtdkbalaphblobaaPx8
import Derived.Test.YtdkbalaphblobaaPx10
import Derived.Test.YtdkbalaphblobaaPx11
namespace Go.Proofs.Ytdkbalaphblobaa.P
open Go.RowKit Go.Proofs.YtdkbalaphblobaaW.PrintWords Go.Proofs.YtdkbalaphblobaaW.PrintLast Go.Proofs.YtdkbalaphblobaaW.PrintMore
attribute [local go_sem] max2_int min2_int max_two min_two max_three min_three max_four min_four   -- for this text's walks alone
set_option linter.unusedVariables false
set_option linter.unusedSimpArgs false

/-! ### plaitinglaw3_ConfChecks: function 6 -/
def plaitinglaw3_ConfChecks.j0 : Nat → Int → Int → Bool → Int → Int → Int → Int → Int → List Int → Option (Bool)
  | 0, _, _, _, _, _, _, _, _, _ => none
  | k + 1, x1, x2, x25, x12112000, x12112001, x12112002, x12112003, x12112004, x12112005 => if x25 = true then (some false) else ((plaitinglaw3_within.f x1 8).bind fun t12115 => (if t12115 = 0 then ((conf_Check.f x2 x12112001 x12112002 x12112003 x12112004 x12112005).bind fun t12116 => ((plaitingref3_Check.f k x2 x12112001 x12112002 x12112003 x12112004 x12112005).bind fun t12117 => (some (t12116 == t12117)))) else (if t12115 = 1 then ((conf_Check.f x12112000 x12112001 x2 x12112003 x12112004 x12112005).bind fun t12118 => ((plaitingref3_Check.f k x12112000 x12112001 x2 x12112003 x12112004 x12112005).bind fun t12119 => (some (t12118 == t12119)))) else (if t12115 = 2 then ((conf_Check.f x12112000 x12112001 x12112002 x2 x12112004 x12112005).bind fun t12120 => ((plaitingref3_Check.f k x12112000 x12112001 x12112002 x2 x12112004 x12112005).bind fun t12121 => (some (t12120 == t12121)))) else (if t12115 = 3 then ((plaitinglaw3_within.f x2 2).bind fun t12122 => ((conf_Check.f x12112000 (wrap64 ((wrap64 ((wrap64 (4 * (wrap64 ((wrap64 (x12112002 + x12112003)) + 1)))) - 1)) + t12122)) x12112002 x12112003 x12112004 x12112005).bind fun t12123 => ((plaitingref3_Check.f k x12112000 (wrap64 ((wrap64 ((wrap64 (4 * (wrap64 ((wrap64 (x12112002 + x12112003)) + 1)))) - 1)) + t12122)) x12112002 x12112003 x12112004 x12112005).bind fun t12124 => (some (t12123 == t12124))))) else (if t12115 = 4 then ((plaitinglaw3_within.f x2 2).bind fun t12125 => ((conf_Check.f x12112000 (wrap64 (10000 + t12125)) x12112002 x12112003 x12112004 x12112005).bind fun t12126 => ((plaitingref3_Check.f k x12112000 (wrap64 (10000 + t12125)) x12112002 x12112003 x12112004 x12112005).bind fun t12127 => (some (t12126 == t12127))))) else (if t12115 = 5 then ((some (([(-1), 65535, 65536, x2] : List Int) : List Int)).bind fun y12128 => ((plaitinglaw3_within.f x2 4).bind fun t12131 => (if 0 ≤ t12131 then (if t12131 < (y12128.length : Int) then ((conf_Check.f x12112000 x12112001 x12112002 x12112003 (rd y12128 t12131) x12112005).bind fun t12133 => ((plaitingref3_Check.f k x12112000 x12112001 x12112002 x12112003 (rd y12128 t12131) x12112005).bind fun t12134 => (some (t12133 == t12134)))) else (none)) else (none)))) else (if t12115 = 6 then ((some (([] : List Int) : List Int)).bind fun y12135 => (if y12135.length + x12112005.length < 17592186044416 then ((some (y12135 ++ x12112005 : List Int)).bind fun y12138 => ((some (([0, 0] : List Int) : List Int)).bind fun y12141 => (if y12138.length + y12141.length < 17592186044416 then ((some (y12138 ++ y12141 : List Int)).bind fun y12144 => ((conf_Check.f x12112000 x12112001 x12112002 x12112003 x12112004 y12144).bind fun t12147 => ((plaitingref3_Check.f k x12112000 x12112001 x12112002 x12112003 x12112004 y12144).bind fun t12148 => (some (t12147 == t12148))))) else (none)))) else (none))) else (if t12115 = 7 then ((some (([(-2), x12112000, wrap64 (x12112000 - 1), x2] : List Int) : List Int)).bind fun y12149 => ((plaitinglaw3_within.f x2 4).bind fun t12152 => (if 0 ≤ t12152 then (if t12152 < (y12149.length : Int) then ((some (([0, rd y12149 t12152] : List Int) : List Int)).bind fun y12154 => ((conf_Check.f x12112000 x12112001 x12112002 x12112003 x12112004 y12154).bind fun t12157 => ((plaitingref3_Check.f k x12112000 x12112001 x12112002 x12112003 x12112004 y12154).bind fun t12158 => (some (t12157 == t12158))))) else (none)) else (none)))) else ((conf_Check.f x12112000 x12112001 x12112002 x12112003 x12112004 x12112005).bind fun t12159 => ((plaitingref3_Check.f k x12112000 x12112001 x12112002 x12112003 x12112004 x12112005).bind fun t12160 => (some (t12159 == t12160)))))))))))))
def plaitinglaw3_ConfChecks.f (k : Nat) (a0_0 : Int) (a0_1 : Int) (a0_2 : Int) (a0_3 : Int) (a0_4 : Int) (l0_5 : List Int) (a1 : Int) (a2 : Int) : Option (Bool) := (plaitinglaw3_known.f).bind fun t12102 => (if t12102 = true then (if (l0_5.length : Int) > 10 then (some true) else ((plaitinglaw3_Make.f k a0_0 a0_1 a0_2 a0_3 a0_4 l0_5).bind fun bt12103 => ((conf_Check.f a0_0 a0_1 a0_2 a0_3 a0_4 l0_5).bind fun t12112 => ((plaitingref3_Check.f k a0_0 a0_1 a0_2 a0_3 a0_4 l0_5).bind fun t12113 => (if t12112 = t12113 then ((conf_Check.f bt12103.1 bt12103.2.1 bt12103.2.2.1 bt12103.2.2.2.1 bt12103.2.2.2.2.1 bt12103.2.2.2.2.2).bind fun t12114 => (plaitinglaw3_ConfChecks.j0 k a1 a2 (t12114 != 0) bt12103.1 bt12103.2.1 bt12103.2.2.1 bt12103.2.2.2.1 bt12103.2.2.2.2.1 bt12103.2.2.2.2.2)) else (plaitinglaw3_ConfChecks.j0 k a1 a2 true bt12103.1 bt12103.2.1 bt12103.2.2.1 bt12103.2.2.2.1 bt12103.2.2.2.2.1 bt12103.2.2.2.2.2)))))) else (some false))
theorem plaitinglaw3_ConfChecks.mono_l : ∀ k, (∀ y0 y1 y2 y3 y4 y5 y6 y7 y8, LeO (plaitinglaw3_ConfChecks.j0 k y0 y1 y2 y3 y4 y5 y6 y7 y8) (plaitinglaw3_ConfChecks.j0 (k + 1) y0 y1 y2 y3 y4 y5 y6 y7 y8))
  | 0 => fun _ _ _ _ _ _ _ _ _ r h => by simp [plaitinglaw3_ConfChecks.j0] at h
  | k + 1 => by
    have ih0 := plaitinglaw3_ConfChecks.mono_l k
    intro y0 y1 y2 y3 y4 y5 y6 y7 y8
    unfold plaitinglaw3_ConfChecks.j0
    repeat' first
    | (with_reducible exact ih0 _ _ _ _ _ _ _ _ _)
    | (with_reducible exact plaitinglaw3_Make.mono _ _ _ _ _ _ _)
    | (with_reducible exact plaitingref3_Check.mono _ _ _ _ _ _ _)
    | (with_reducible exact LeO.refl _)
    | (with_reducible exact LeO.none _)
    | (with_reducible refine LeO.ite ?_ ?_)
    | (with_reducible refine LeO.bind ?_ (fun _ => ?_))
    | exact ih0 _ _ _ _ _ _ _ _ _
    | exact plaitinglaw3_Make.mono _ _ _ _ _ _ _
    | exact plaitingref3_Check.mono _ _ _ _ _ _ _
    | exact LeO.none _
    | refine LeO.ite ?_ ?_
    | refine LeO.bind ?_ (fun _ => ?_)
theorem plaitinglaw3_ConfChecks.mono : ∀ a0 a1 a2 a3 a4 a5 a6 a7 k, LeO (plaitinglaw3_ConfChecks.f k a0 a1 a2 a3 a4 a5 a6 a7) (plaitinglaw3_ConfChecks.f (k + 1) a0 a1 a2 a3 a4 a5 a6 a7) := by
  intro a0 a1 a2 a3 a4 a5 a6 a7 k
  have ih0 := plaitinglaw3_ConfChecks.mono_l k
  unfold plaitinglaw3_ConfChecks.f
  repeat' first
      | (with_reducible exact ih0 _ _ _ _ _ _ _ _ _)
      | (with_reducible exact plaitinglaw3_Make.mono _ _ _ _ _ _ _)
      | (with_reducible exact plaitingref3_Check.mono _ _ _ _ _ _ _)
      | (with_reducible exact LeO.refl _)
      | (with_reducible exact LeO.none _)
      | (with_reducible refine LeO.ite ?_ ?_)
      | (with_reducible refine LeO.bind ?_ (fun _ => ?_))
      | exact ih0 _ _ _ _ _ _ _ _ _
      | exact plaitinglaw3_Make.mono _ _ _ _ _ _ _
      | exact plaitingref3_Check.mono _ _ _ _ _ _ _
      | exact LeO.none _
      | refine LeO.ite ?_ ?_
      | refine LeO.bind ?_ (fun _ => ?_)
def plaitinglaw3_ConfChecks.T6 : Bool × List (List Nat × List Nat) := (true, [([], []), ([0], [0]), ([], []), ([2, 1], [2]), ([1, 3], [1, 3]), ([4, 3], [4]), ([5], [5]), ([6, 5, 5], [5, 6]), ([7, 5], [5, 7]), ([5, 8], [5, 8])])
def plaitinglaw3_ConfChecks.B6 : List Nat := [0, 1, 0, 7, 15, 31, 63, 127, 255, 511]
theorem plaitinglaw3_ConfChecks.tab6 : rtab .any (opsOf Try.f6 6) = plaitinglaw3_ConfChecks.T6 := by kernel_rfl
theorem plaitinglaw3_ConfChecks.bits6 : waitsOk plaitinglaw3_ConfChecks.T6.2 plaitinglaw3_ConfChecks.B6 = true := by kernel_rfl
def plaitinglaw3_ConfChecks.T16 : Bool × List (List Nat × List Nat) := (true, [([], []), ([0], [0]), ([], []), ([2], [2]), ([1, 3], [1, 3]), ([4], [4]), ([5], [5]), ([6], [6]), ([], []), ([8], [8]), ([7, 9], [7, 9]), ([0, 1, 2, 3, 4, 5, 6, 7, 8, 9, 10], []), ([11, 10, 9, 0, 1, 2, 3, 4, 5, 6, 7, 8, 9, 10], [10, 11])])
def plaitinglaw3_ConfChecks.B16 : List Nat := [0, 1, 0, 4, 15, 31, 63, 127, 0, 256, 1023, 2047, 4095]
theorem plaitinglaw3_ConfChecks.tab16 : rtab .any (opsOf Try.f6 16) = plaitinglaw3_ConfChecks.T16 := by kernel_rfl
theorem plaitinglaw3_ConfChecks.bits16 : waitsOk plaitinglaw3_ConfChecks.T16.2 plaitinglaw3_ConfChecks.B16 = true := by kernel_rfl
def plaitinglaw3_ConfChecks.T24 : Bool × List (List Nat × List Nat) := (true, [([], []), ([0], [0]), ([], []), ([2], [2]), ([3], [3]), ([], []), ([1, 4, 5], [1, 4, 5]), ([], []), ([7], [7]), ([6, 8], [6, 8]), ([9], [9]), ([10], [10]), ([0, 1, 2, 3, 4, 5, 6, 7, 8, 9, 10, 11], []), ([12, 11, 8, 0, 1, 2, 3, 4, 5, 6, 7, 8, 9, 10, 11], [11, 12])])
def plaitinglaw3_ConfChecks.B24 : List Nat := [0, 1, 0, 4, 12, 0, 63, 0, 128, 511, 1023, 2047, 4095, 8191]
theorem plaitinglaw3_ConfChecks.tab24 : rtab .any (opsOf Try.f6 24) = plaitinglaw3_ConfChecks.T24 := by kernel_rfl
theorem plaitinglaw3_ConfChecks.bits24 : waitsOk plaitinglaw3_ConfChecks.T24.2 plaitinglaw3_ConfChecks.B24 = true := by kernel_rfl
set_option maxHeartbeats 8000000 in
set_option maxRecDepth 100000 in
theorem plaitinglaw3_ConfChecks.calls (k : Nat) (a0_0 : Int) (a0_1 : Int) (a0_2 : Int) (a0_3 : Int) (a0_4 : Int) (A0_5 : Option Addr) (c0_5 : Nat) (l0_5 : List Int) (a1 : Int) (a2 : Int) (r : Bool) (w : World) (hr0_5 : Kd.C (Kd.int .i64) w A0_5 l0_5.length l0_5) (hc0_5 : l0_5.length ≤ c0_5) (hrt : r = true) (h : plaitinglaw3_ConfChecks.f k a0_0 a0_1 a0_2 a0_3 a0_4 l0_5 a1 a2 = some r) :
    Calls Try.prog 6 #[.agg #[.int .i64 a0_0, .int .i64 a0_1, .int .i64 a0_2, .int .i64 a0_3, .int .i64 a0_4, .slice A0_5 l0_5.length c0_5], .int .i64 a1, .int .i64 a2] w fun e w' => e = .returned (.bool r) ∧ Below w.heap.size w w' := by
  have HRT := Aside0.mk hrt
  clear hrt
  have hu35 := Try.underlying35
  have HR0_5 := Aside0.mk hr0_5
  have HC0_5 := Aside0.mk hc0_5
  clear hr0_5 hc0_5
  have HB := Aside0.mk (Below.refl w.heap.size w)
  have H : ((plaitinglaw3_known.f).bind fun t12102 => (if t12102 = true then (if (l0_5.length : Int) > 10 then (some true) else ((plaitinglaw3_Make.f k a0_0 a0_1 a0_2 a0_3 a0_4 l0_5).bind fun bt12103 => ((conf_Check.f a0_0 a0_1 a0_2 a0_3 a0_4 l0_5).bind fun t12112 => ((plaitingref3_Check.f k a0_0 a0_1 a0_2 a0_3 a0_4 l0_5).bind fun t12113 => (if t12112 = t12113 then ((conf_Check.f bt12103.1 bt12103.2.1 bt12103.2.2.1 bt12103.2.2.2.1 bt12103.2.2.2.2.1 bt12103.2.2.2.2.2).bind fun t12114 => (plaitinglaw3_ConfChecks.j0 k a1 a2 (t12114 != 0) bt12103.1 bt12103.2.1 bt12103.2.2.1 bt12103.2.2.2.1 bt12103.2.2.2.2.1 bt12103.2.2.2.2.2)) else (plaitinglaw3_ConfChecks.j0 k a1 a2 true bt12103.1 bt12103.2.1 bt12103.2.2.1 bt12103.2.2.2.1 bt12103.2.2.2.2.1 bt12103.2.2.2.2.2)))))) else (some false))) = some r := h
  clear h
  replace H := Option.bind_eq_some_iff.mp H
  obtain ⟨t12102, A40, H⟩ := H
  replace H : (if t12102 = true then (if (l0_5.length : Int) > 10 then (some true) else ((plaitinglaw3_Make.f k a0_0 a0_1 a0_2 a0_3 a0_4 l0_5).bind fun bt12103 => ((conf_Check.f a0_0 a0_1 a0_2 a0_3 a0_4 l0_5).bind fun t12112 => ((plaitingref3_Check.f k a0_0 a0_1 a0_2 a0_3 a0_4 l0_5).bind fun t12113 => (if t12112 = t12113 then ((conf_Check.f bt12103.1 bt12103.2.1 bt12103.2.2.1 bt12103.2.2.2.1 bt12103.2.2.2.2.1 bt12103.2.2.2.2.2).bind fun t12114 => (plaitinglaw3_ConfChecks.j0 k a1 a2 (t12114 != 0) bt12103.1 bt12103.2.1 bt12103.2.2.1 bt12103.2.2.2.1 bt12103.2.2.2.2.1 bt12103.2.2.2.2.2)) else (plaitinglaw3_ConfChecks.j0 k a1 a2 true bt12103.1 bt12103.2.1 bt12103.2.2.1 bt12103.2.2.2.1 bt12103.2.2.2.2.1 bt12103.2.2.2.2.2)))))) else (some false)) = some r := H
  have A4 := Aside0.mk A40
  clear A40
  by_cases c5 : t12102 = true
  · subst c5
    have H1 : (if (l0_5.length : Int) > 10 then (some true) else ((plaitinglaw3_Make.f k a0_0 a0_1 a0_2 a0_3 a0_4 l0_5).bind fun bt12103 => ((conf_Check.f a0_0 a0_1 a0_2 a0_3 a0_4 l0_5).bind fun t12112 => ((plaitingref3_Check.f k a0_0 a0_1 a0_2 a0_3 a0_4 l0_5).bind fun t12113 => (if t12112 = t12113 then ((conf_Check.f bt12103.1 bt12103.2.1 bt12103.2.2.1 bt12103.2.2.2.1 bt12103.2.2.2.2.1 bt12103.2.2.2.2.2).bind fun t12114 => (plaitinglaw3_ConfChecks.j0 k a1 a2 (t12114 != 0) bt12103.1 bt12103.2.1 bt12103.2.2.1 bt12103.2.2.2.1 bt12103.2.2.2.2.1 bt12103.2.2.2.2.2)) else (plaitinglaw3_ConfChecks.j0 k a1 a2 true bt12103.1 bt12103.2.1 bt12103.2.2.1 bt12103.2.2.2.1 bt12103.2.2.2.2.1 bt12103.2.2.2.2.2)))))) = some r := by rw [if_pos rfl] at H; exact H
    clear H
    have H := H1
    clear H1
    by_cases c6 : (l0_5.length : Int) > 10
    · rw [if_pos c6] at H
      have c6b0 : decide (10 < (l0_5.length : Int)) = true := decide_eq_true c6
      have c6b1 : decide (10 < l0_5.length) = true := decide_eq_true (by omega)
      clear c6
      obtain rfl := Option.some.inj H
      go_enter Try.func6, Try.ntmps6
      go_wp2_with (first | ((with_reducible refine gate_dst (N := 3) rfl ?_); refine box_event ?hg (N := 3) ?hd (cs := #[.int .i64 a0_0, .int .i64 a0_1, .int .i64 a0_2, .int .i64 a0_3, .int .i64 a0_4, .slice A0_5 l0_5.length c0_5]) (t := 35) ?hr ?_; (case hd => rfl); (case hg => rfl); (case hr => first | (go_simp; done) | (go_simp; rfl)); intro gb12101 hg w7 hbox hb; have n0_ := Aside0.mk (below_step (by repeat (first | (with_reducible first | exact HB.out | apply below_alloc | apply pw_below_drewN | apply below_drew1) | exact HB.out)) hb); have n1_ := Aside0.mk (hbox); have n2_ := Aside0.mk ((by rw [hg]; exact (below_size (by repeat (first | (with_reducible first | exact HB.out | apply below_alloc | apply pw_below_drewN | apply below_drew1) | exact HB.out))) : w.heap.size ≤ gb12101)); have n3_ := Aside0.mk ((by rw [hg]; exact (below_size (by repeat (first | (with_reducible first | exact HB.out | apply below_alloc | apply pw_below_drewN | apply below_drew1) | exact HB.out))) : w.heap.size ≤ gb12101)); clear HB; have HB := n0_; have BK12101 := n1_; have GW12101 := n2_; have GE12101 := n3_; clear n0_ n1_ n2_ n3_; clear hb hbox hg) | ((with_reducible refine gate_callee (f := 25) rfl ?_); refine goesL_ (some 8) rfl rfl Try.func25 (by kernel_rfl) rfl #[] rfl (by (try simp only [List.map_toArray, List.map_cons, List.map_nil]); first | done | rfl | (simp only [List.length_drop, List.length_take]; rfl)) ?_; (with_reducible refine (plaitinglaw3_known.calls  true _ A4.out).mono ?_); rintro e w8 ⟨rfl, hb⟩; refine ⟨_, rfl, ?_⟩; have n0_ := Aside0.mk (blk_below (g := gb12101) (o := .cells #[.int .i64 a0_0, .int .i64 a0_1, .int .i64 a0_2, .int .i64 a0_3, .int .i64 a0_4, .slice A0_5 l0_5.length c0_5] 35 (0, 0)) (by (with_reducible repeat (first | refine blk_drewN ?_ _ | refine blk_drew ?_ | refine blk_alloc ?_ _)); exact BK12101.out) hb); have n1_ := Aside0.mk (below_step (by repeat (first | (with_reducible first | exact HB.out | apply below_alloc | apply pw_below_drewN | apply below_drew1 | refine below_set ?_ GE12101.out) | exact HB.out)) hb); clear BK12101; clear HB; have BK12101 := n0_; have HB := n1_; clear n0_ n1_; (try clear hb); (try clear hb2); (try clear hk); (try clear hi); have hcz9_0 : w8.cell? ⟨gb12101, 0, none⟩ = some (.int .i64 a0_0) := (blk_cell BK12101.out 0).trans rfl; have hcz9_1 : w8.cell? ⟨gb12101, 1, none⟩ = some (.int .i64 a0_1) := (blk_cell BK12101.out 1).trans rfl; have hcz9_2 : w8.cell? ⟨gb12101, 2, none⟩ = some (.int .i64 a0_2) := (blk_cell BK12101.out 2).trans rfl; have hcz9_3 : w8.cell? ⟨gb12101, 3, none⟩ = some (.int .i64 a0_3) := (blk_cell BK12101.out 3).trans rfl; have hcz9_4 : w8.cell? ⟨gb12101, 4, none⟩ = some (.int .i64 a0_4) := (blk_cell BK12101.out 4).trans rfl; have hcz9_5 : w8.cell? ⟨gb12101, 5, none⟩ = some (.slice A0_5 l0_5.length c0_5) := (blk_cell BK12101.out 5).trans rfl; have hfz9_0 := blk_frozen BK12101.out 0; have hfz9_1 := blk_frozen BK12101.out 1; have hfz9_2 := blk_frozen BK12101.out 2; have hfz9_3 := blk_frozen BK12101.out 3; have hfz9_4 := blk_frozen BK12101.out 4; have hfz9_5 := blk_frozen BK12101.out 5))
      go_ret
      exact ⟨by first | rfl | (simp [errW_none, errW_some] <;> rfl) | (simp [*, errW_none, errW_some] <;> rfl), by repeat (first | (with_reducible first | exact HB.out | apply below_alloc | apply pw_below_drewN | apply below_drew1 | refine below_set ?_ GE12101.out) | exact HB.out)⟩
    rw [if_neg c6] at H
    have c6b0 : decide (10 < (l0_5.length : Int)) = false := decide_eq_false c6
    have c6b1 : decide (10 < l0_5.length) = false := decide_eq_false (by omega)
    clear c6
    replace H := Option.bind_eq_some_iff.mp H
    obtain ⟨⟨t12103, t12104, t12105, t12106, t12107, t12108⟩, A100, H⟩ := H
    replace H : ((conf_Check.f a0_0 a0_1 a0_2 a0_3 a0_4 l0_5).bind fun t12112 => ((plaitingref3_Check.f k a0_0 a0_1 a0_2 a0_3 a0_4 l0_5).bind fun t12113 => (if t12112 = t12113 then ((conf_Check.f t12103 t12104 t12105 t12106 t12107 t12108).bind fun t12114 => (plaitinglaw3_ConfChecks.j0 k a1 a2 (t12114 != 0) t12103 t12104 t12105 t12106 t12107 t12108)) else (plaitinglaw3_ConfChecks.j0 k a1 a2 true t12103 t12104 t12105 t12106 t12107 t12108)))) = some r := H
    have A10 := Aside0.mk A100
    clear A100
    have HC11 := Aside0.mk H
    clear H
    go_enter Try.func6, Try.ntmps6
    go_upto_region 6 with (first | ((with_reducible refine gate_dst (N := 3) rfl ?_); refine box_event ?hg (N := 3) ?hd (cs := #[.int .i64 a0_0, .int .i64 a0_1, .int .i64 a0_2, .int .i64 a0_3, .int .i64 a0_4, .slice A0_5 l0_5.length c0_5]) (t := 35) ?hr ?_; (case hd => rfl); (case hg => rfl); (case hr => first | (go_simp; done) | (go_simp; rfl)); intro gb12101 hg w12 hbox hb; have n0_ := Aside0.mk (below_step (by repeat (first | (with_reducible first | exact HB.out | apply below_alloc | apply pw_below_drewN | apply below_drew1) | exact HB.out)) hb); have n1_ := Aside0.mk (hbox); have n2_ := Aside0.mk ((by rw [hg]; exact (below_size (by repeat (first | (with_reducible first | exact HB.out | apply below_alloc | apply pw_below_drewN | apply below_drew1) | exact HB.out))) : w.heap.size ≤ gb12101)); have n3_ := Aside0.mk ((by rw [hg]; exact (below_size (by repeat (first | (with_reducible first | exact HB.out | apply below_alloc | apply pw_below_drewN | apply below_drew1) | exact HB.out))) : w.heap.size ≤ gb12101)); clear HB; have HB := n0_; have BK12101 := n1_; have GW12101 := n2_; have GE12101 := n3_; clear n0_ n1_ n2_ n3_; clear hb hbox hg) | ((with_reducible refine gate_callee (f := 25) rfl ?_); refine goesL_ (some 8) rfl rfl Try.func25 (by kernel_rfl) rfl #[] rfl (by (try simp only [List.map_toArray, List.map_cons, List.map_nil]); first | done | rfl | (simp only [List.length_drop, List.length_take]; rfl)) ?_; (with_reducible refine (plaitinglaw3_known.calls  true _ A4.out).mono ?_); rintro e w13 ⟨rfl, hb⟩; refine ⟨_, rfl, ?_⟩; have n0_ := Aside0.mk (blk_below (g := gb12101) (o := .cells #[.int .i64 a0_0, .int .i64 a0_1, .int .i64 a0_2, .int .i64 a0_3, .int .i64 a0_4, .slice A0_5 l0_5.length c0_5] 35 (0, 0)) (by (with_reducible repeat (first | refine blk_drewN ?_ _ | refine blk_drew ?_ | refine blk_alloc ?_ _)); exact BK12101.out) hb); have n1_ := Aside0.mk (below_step (by repeat (first | (with_reducible first | exact HB.out | apply below_alloc | apply pw_below_drewN | apply below_drew1 | refine below_set ?_ GE12101.out) | exact HB.out)) hb); clear BK12101; clear HB; have BK12101 := n0_; have HB := n1_; clear n0_ n1_; (try clear hb); (try clear hb2); (try clear hk); (try clear hi); have hcz14_0 : w13.cell? ⟨gb12101, 0, none⟩ = some (.int .i64 a0_0) := (blk_cell BK12101.out 0).trans rfl; have hcz14_1 : w13.cell? ⟨gb12101, 1, none⟩ = some (.int .i64 a0_1) := (blk_cell BK12101.out 1).trans rfl; have hcz14_2 : w13.cell? ⟨gb12101, 2, none⟩ = some (.int .i64 a0_2) := (blk_cell BK12101.out 2).trans rfl; have hcz14_3 : w13.cell? ⟨gb12101, 3, none⟩ = some (.int .i64 a0_3) := (blk_cell BK12101.out 3).trans rfl; have hcz14_4 : w13.cell? ⟨gb12101, 4, none⟩ = some (.int .i64 a0_4) := (blk_cell BK12101.out 4).trans rfl; have hcz14_5 : w13.cell? ⟨gb12101, 5, none⟩ = some (.slice A0_5 l0_5.length c0_5) := (blk_cell BK12101.out 5).trans rfl; have hfz14_0 := blk_frozen BK12101.out 0; have hfz14_1 := blk_frozen BK12101.out 1; have hfz14_2 := blk_frozen BK12101.out 2; have hfz14_3 := blk_frozen BK12101.out 3; have hfz14_4 := blk_frozen BK12101.out 4; have hfz14_5 := blk_frozen BK12101.out 5) | ((with_reducible refine gate_callee (f := 26) rfl ?_); refine goesL_ (some 15) rfl rfl Try.func26 (by kernel_rfl) rfl #[.agg #[.int .i64 a0_0, .int .i64 a0_1, .int .i64 a0_2, .int .i64 a0_3, .int .i64 a0_4, .slice A0_5 l0_5.length c0_5]] rfl (by (try simp only [List.map_toArray, List.map_cons, List.map_nil]); first | done | rfl | (simp only [List.length_drop, List.length_take]; rfl)) ?_; (with_reducible refine (plaitinglaw3_Make.calls k a0_0 a0_1 a0_2 a0_3 a0_4 _ _ l0_5 t12103 t12104 t12105 t12106 t12107 t12108 _ ?side1 ?side2 A10.out).mono ?_); (case side1 => repeat (first | exact (Kd.C_below HR0_5.out HB.out) | (with_reducible refine Kd.C_alloc ?_ _) | (with_reducible refine Kd.C_drewN ?_ _) | (with_reducible refine Kd.C_drew ?_))); (case side2 => exact HC0_5.out); rintro e w15 ⟨v12109, rfl, ho0, hb⟩; refine ⟨_, rfl, ?_⟩; have n0_ := Aside0.mk (Kd.R_lower ho0 (below_size (by repeat (first | (with_reducible first | exact HB.out | apply below_alloc | apply pw_below_drewN | apply below_drew1 | refine below_set ?_ GE12101.out) | exact HB.out)))); have n1_ := Aside0.mk (blk_below (g := gb12101) (o := .cells #[.int .i64 a0_0, .int .i64 a0_1, .int .i64 a0_2, .int .i64 a0_3, .int .i64 a0_4, .slice A0_5 l0_5.length c0_5] 35 (0, 0)) (by (with_reducible repeat (first | refine blk_drewN ?_ _ | refine blk_drew ?_ | refine blk_alloc ?_ _)); exact BK12101.out) hb); have n2_ := Aside0.mk (below_step (by repeat (first | (with_reducible first | exact HB.out | apply below_alloc | apply pw_below_drewN | apply below_drew1 | refine below_set ?_ GE12101.out) | exact HB.out)) hb); clear BK12101; clear HB; have HO12110 := n0_; have BK12101 := n1_; have HB := n2_; clear n0_ n1_ n2_; (try clear hb); (try clear hb2); (try clear hk); (try clear hi); (try clear ho0)) | ((with_reducible refine gate_dst (N := 7) rfl ?_); refine box_event ?hg (N := 7) ?hd (cs := #[.int .i64 0, .int .i64 0, .int .i64 0, .int .i64 0, .int .i64 0, .slice none 0 0]) (t := 35) ?hr ?_; (case hd => rfl); (case hg => rfl); (case hr => first | (go_simp; done) | (go_simp; rfl)); intro gb12111 hg w16 hbox hb; have n0_ := Aside0.mk (Kd.R_below (by (with_reducible repeat (first | apply Kd.R_alloc | apply Kd.R_drewN | apply Kd.R_drew)); exact HO12110.out) hb); have n1_ := Aside0.mk (blk_below (g := gb12101) (o := .cells #[.int .i64 a0_0, .int .i64 a0_1, .int .i64 a0_2, .int .i64 a0_3, .int .i64 a0_4, .slice A0_5 l0_5.length c0_5] 35 (0, 0)) (by (with_reducible repeat (first | refine blk_drewN ?_ _ | refine blk_drew ?_ | refine blk_alloc ?_ _)); exact BK12101.out) hb); have n2_ := Aside0.mk (below_step (by repeat (first | (with_reducible first | exact HB.out | apply below_alloc | apply pw_below_drewN | apply below_drew1 | refine below_set ?_ GE12101.out) | exact HB.out)) hb); have n3_ := Aside0.mk (hbox); have n4_ := Aside0.mk ((by rw [hg]; exact (below_size (by repeat (first | (with_reducible first | exact HB.out | apply below_alloc | apply pw_below_drewN | apply below_drew1 | refine below_set ?_ GE12101.out) | exact HB.out))) : w.heap.size ≤ gb12111)); have n5_ := Aside0.mk ((by rw [hg]; exact (below_size (by repeat (first | (with_reducible first | exact HB.out | apply below_alloc | apply pw_below_drewN | apply below_drew1 | refine below_set ?_ GE12101.out) | exact HB.out))) : w.heap.size ≤ gb12111)); have n6_ := Aside0.mk ((by rw [hg]; exact Nat.ne_of_lt (blk_lt (g := gb12101) (o := .cells #[.int .i64 a0_0, .int .i64 a0_1, .int .i64 a0_2, .int .i64 a0_3, .int .i64 a0_4, .slice A0_5 l0_5.length c0_5] 35 (0, 0)) (by (with_reducible repeat (first | refine blk_drewN ?_ _ | refine blk_drew ?_ | refine blk_alloc ?_ _)); exact BK12101.out)) : gb12101 ≠ gb12111)); have n7_ := Aside0.mk ((by rw [hg]; exact Nat.ne_of_gt (blk_lt (g := gb12101) (o := .cells #[.int .i64 a0_0, .int .i64 a0_1, .int .i64 a0_2, .int .i64 a0_3, .int .i64 a0_4, .slice A0_5 l0_5.length c0_5] 35 (0, 0)) (by (with_reducible repeat (first | refine blk_drewN ?_ _ | refine blk_drew ?_ | refine blk_alloc ?_ _)); exact BK12101.out)) : gb12111 ≠ gb12101)); clear HO12110; clear BK12101; clear HB; have HO12110 := n0_; have BK12101 := n1_; have HB := n2_; have BK12111 := n3_; have GW12111 := n4_; have GE12111 := n5_; have NB12101_12111 := n6_; have NB12111_12101 := n7_; clear n0_ n1_ n2_ n3_ n4_ n5_ n6_ n7_; clear hb hbox hg; have hnb17 := NB12111_12101.out; have hnc17 := NB12101_12111.out; have hcz18_0 : w16.cell? ⟨gb12111, 0, none⟩ = some (.int .i64 0) := (blk_cell BK12111.out 0).trans rfl; have hcz18_1 : w16.cell? ⟨gb12111, 1, none⟩ = some (.int .i64 0) := (blk_cell BK12111.out 1).trans rfl; have hcz18_2 : w16.cell? ⟨gb12111, 2, none⟩ = some (.int .i64 0) := (blk_cell BK12111.out 2).trans rfl; have hcz18_3 : w16.cell? ⟨gb12111, 3, none⟩ = some (.int .i64 0) := (blk_cell BK12111.out 3).trans rfl; have hcz18_4 : w16.cell? ⟨gb12111, 4, none⟩ = some (.int .i64 0) := (blk_cell BK12111.out 4).trans rfl; have hcz18_5 : w16.cell? ⟨gb12111, 5, none⟩ = some (.slice none 0 0) := (blk_cell BK12111.out 5).trans rfl; have hfz18_0 := blk_frozen BK12111.out 0; have hfz18_1 := blk_frozen BK12111.out 1; have hfz18_2 := blk_frozen BK12111.out 2; have hfz18_3 := blk_frozen BK12111.out 3; have hfz18_4 := blk_frozen BK12111.out 4; have hfz18_5 := blk_frozen BK12111.out 5; obtain ⟨Ao19, co19, eo19⟩ := Kd.R_slice HO12110.out; subst eo19))
    (try simp only [Act.put, List.setIfInBounds_toArray, List.set_cons_zero, List.set_cons_succ])
    go_cut [25] (fun v25 wc => ∃ (kq : Nat) (x25_10 : Bool), v25 = .bool x25_10 ∧ Aside0 (plaitinglaw3_ConfChecks.j0 kq a1 a2 x25_10 t12103 t12104 t12105 t12106 t12107 t12108 = some r) ∧ Aside0 (kq ≤ k) ∧ Aside0 (Kd.R (Kd.int .i64) 3 wc w.heap.size (fun _ => True) (.slice Ao19 t12108.length co19) t12108) ∧ Aside0 (wc.heap[gb12101]? = some (.cells #[.int .i64 a0_0, .int .i64 a0_1, .int .i64 a0_2, .int .i64 a0_3, .int .i64 a0_4, (.slice A0_5 l0_5.length c0_5)] 35 (0, 0))) ∧ Aside0 (wc.heap[gb12111]? = some (.cells #[.int .i64 t12103, .int .i64 t12104, .int .i64 t12105, .int .i64 t12106, .int .i64 t12107, (.slice Ao19 t12108.length co19)] 35 (0, 0))) ∧ Aside0 (Below w.heap.size w wc))
    case first =>
      have H := HC11.out
      clear HC11
      replace H := Option.bind_eq_some_iff.mp H
      obtain ⟨t12112, A200, H⟩ := H
      replace H : ((plaitingref3_Check.f k a0_0 a0_1 a0_2 a0_3 a0_4 l0_5).bind fun t12113 => (if t12112 = t12113 then ((conf_Check.f t12103 t12104 t12105 t12106 t12107 t12108).bind fun t12114 => (plaitinglaw3_ConfChecks.j0 k a1 a2 (t12114 != 0) t12103 t12104 t12105 t12106 t12107 t12108)) else (plaitinglaw3_ConfChecks.j0 k a1 a2 true t12103 t12104 t12105 t12106 t12107 t12108))) = some r := H
      have A20 := Aside0.mk A200
      clear A200
      replace H := Option.bind_eq_some_iff.mp H
      obtain ⟨t12113, A210, H⟩ := H
      replace H : (if t12112 = t12113 then ((conf_Check.f t12103 t12104 t12105 t12106 t12107 t12108).bind fun t12114 => (plaitinglaw3_ConfChecks.j0 k a1 a2 (t12114 != 0) t12103 t12104 t12105 t12106 t12107 t12108)) else (plaitinglaw3_ConfChecks.j0 k a1 a2 true t12103 t12104 t12105 t12106 t12107 t12108)) = some r := H
      have A21 := Aside0.mk A210
      clear A210
      by_cases c22 : t12112 = t12113
      · rw [if_pos c22] at H
        have c22b0 : (t12112 == t12113) = true := beq_iff_eq.mpr c22
        have c22b1 : (t12112 != t12113) = false := bne_eq_false_iff_eq.mpr c22
        clear c22
        (first | rw [c22b0] | (simp only [i64_w, i32_w]; rw [c22b0]) | skip)
        replace H := Option.bind_eq_some_iff.mp H
        obtain ⟨t12114, A230, H⟩ := H
        replace H : (plaitinglaw3_ConfChecks.j0 k a1 a2 (t12114 != 0) t12103 t12104 t12105 t12106 t12107 t12108) = some r := H
        have A23 := Aside0.mk A230
        clear A230
        have H' := Aside0.mk H
        clear H
        try go_wp2
        (try (rw [drewN_self w16]; generalize hq_ : World.drewN w16 _ = w16; have n0_ := Aside0.mk (Kd.R_at hq_ HO12110.out); have n1_ := Aside0.mk (blk_at hq_ BK12101.out); have n2_ := Aside0.mk (blk_at hq_ BK12111.out); have n3_ := Aside0.mk (below_at hq_ HB.out); clear hq_ HO12110 BK12101 BK12111 HB; have HO12110 := n0_; have BK12101 := n1_; have BK12111 := n2_; have HB := n3_; clear n0_ n1_ n2_ n3_))
        have n0_ : Aside0 (Kd.R (Kd.int .i64) 3 ((((((w16.setCell ⟨gb12111, 0, none⟩ (.int .i64 t12103)).setCell ⟨gb12111, 1, none⟩ (.int .i64 t12104)).setCell ⟨gb12111, 2, none⟩ (.int .i64 t12105)).setCell ⟨gb12111, 3, none⟩ (.int .i64 t12106)).setCell ⟨gb12111, 4, none⟩ (.int .i64 t12107)).setCell ⟨gb12111, 5, none⟩ (.slice Ao19 t12108.length co19)) w.heap.size (fun _ => True) (.slice Ao19 t12108.length co19) t12108) := ⟨by (with_reducible repeat (first | apply Kd.R_alloc | apply Kd.R_drewN | apply Kd.R_drew)); exact Kd.R_mono (Kd.R_far (p := ⟨gb12111, 5, none⟩) (Kd.R_far (p := ⟨gb12111, 4, none⟩) (Kd.R_far (p := ⟨gb12111, 3, none⟩) (Kd.R_far (p := ⟨gb12111, 2, none⟩) (Kd.R_far (p := ⟨gb12111, 1, none⟩) (Kd.R_far (p := ⟨gb12111, 0, none⟩) (Kd.R_types HO12110.out BK12111.out (by decide)) (fun _ hk => hk.2) (.int .i64 t12103)) (fun _ hk => hk.2) (.int .i64 t12104)) (fun _ hk => hk.2) (.int .i64 t12105)) (fun _ hk => hk.2) (.int .i64 t12106)) (fun _ hk => hk.2) (.int .i64 t12107)) (fun _ hk => hk.2) (.slice Ao19 t12108.length co19)) (fun _ hk => trivial)⟩
        have n1_ : Aside0 (((((((w16.setCell ⟨gb12111, 0, none⟩ (.int .i64 t12103)).setCell ⟨gb12111, 1, none⟩ (.int .i64 t12104)).setCell ⟨gb12111, 2, none⟩ (.int .i64 t12105)).setCell ⟨gb12111, 3, none⟩ (.int .i64 t12106)).setCell ⟨gb12111, 4, none⟩ (.int .i64 t12107)).setCell ⟨gb12111, 5, none⟩ (.slice Ao19 t12108.length co19)).heap[gb12101]? = some (.cells #[.int .i64 a0_0, .int .i64 a0_1, .int .i64 a0_2, .int .i64 a0_3, .int .i64 a0_4, .slice A0_5 l0_5.length c0_5] 35 (0, 0))) := ⟨by (with_reducible repeat (first | refine blk_drewN ?_ _ | refine blk_drew ?_ | refine blk_alloc ?_ _)); refine blk_far ?_ NB12101_12111.out _; (with_reducible repeat (first | refine blk_drewN ?_ _ | refine blk_drew ?_ | refine blk_alloc ?_ _)); refine blk_far ?_ NB12101_12111.out _; (with_reducible repeat (first | refine blk_drewN ?_ _ | refine blk_drew ?_ | refine blk_alloc ?_ _)); refine blk_far ?_ NB12101_12111.out _; (with_reducible repeat (first | refine blk_drewN ?_ _ | refine blk_drew ?_ | refine blk_alloc ?_ _)); refine blk_far ?_ NB12101_12111.out _; (with_reducible repeat (first | refine blk_drewN ?_ _ | refine blk_drew ?_ | refine blk_alloc ?_ _)); refine blk_far ?_ NB12101_12111.out _; (with_reducible repeat (first | refine blk_drewN ?_ _ | refine blk_drew ?_ | refine blk_alloc ?_ _)); refine blk_far ?_ NB12101_12111.out _; (with_reducible repeat (first | refine blk_drewN ?_ _ | refine blk_drew ?_ | refine blk_alloc ?_ _)); exact BK12101.out⟩
        have n2_ : Aside0 (((((((w16.setCell ⟨gb12111, 0, none⟩ (.int .i64 t12103)).setCell ⟨gb12111, 1, none⟩ (.int .i64 t12104)).setCell ⟨gb12111, 2, none⟩ (.int .i64 t12105)).setCell ⟨gb12111, 3, none⟩ (.int .i64 t12106)).setCell ⟨gb12111, 4, none⟩ (.int .i64 t12107)).setCell ⟨gb12111, 5, none⟩ (.slice Ao19 t12108.length co19)).heap[gb12111]? = some (.cells #[.int .i64 t12103, .int .i64 t12104, .int .i64 t12105, .int .i64 t12106, .int .i64 t12107, .slice Ao19 t12108.length co19] 35 (0, 0))) := ⟨by (with_reducible repeat (first | refine blk_drewN ?_ _ | refine blk_drew ?_ | refine blk_alloc ?_ _)); refine blk_put (cs := #[.int .i64 t12103, .int .i64 t12104, .int .i64 t12105, .int .i64 t12106, .int .i64 t12107, .slice none 0 0]) ?_ 5 _ rfl; (with_reducible repeat (first | refine blk_drewN ?_ _ | refine blk_drew ?_ | refine blk_alloc ?_ _)); refine blk_put (cs := #[.int .i64 t12103, .int .i64 t12104, .int .i64 t12105, .int .i64 t12106, .int .i64 0, .slice none 0 0]) ?_ 4 _ rfl; (with_reducible repeat (first | refine blk_drewN ?_ _ | refine blk_drew ?_ | refine blk_alloc ?_ _)); refine blk_put (cs := #[.int .i64 t12103, .int .i64 t12104, .int .i64 t12105, .int .i64 0, .int .i64 0, .slice none 0 0]) ?_ 3 _ rfl; (with_reducible repeat (first | refine blk_drewN ?_ _ | refine blk_drew ?_ | refine blk_alloc ?_ _)); refine blk_put (cs := #[.int .i64 t12103, .int .i64 t12104, .int .i64 0, .int .i64 0, .int .i64 0, .slice none 0 0]) ?_ 2 _ rfl; (with_reducible repeat (first | refine blk_drewN ?_ _ | refine blk_drew ?_ | refine blk_alloc ?_ _)); refine blk_put (cs := #[.int .i64 t12103, .int .i64 0, .int .i64 0, .int .i64 0, .int .i64 0, .slice none 0 0]) ?_ 1 _ rfl; (with_reducible repeat (first | refine blk_drewN ?_ _ | refine blk_drew ?_ | refine blk_alloc ?_ _)); refine blk_put (cs := #[.int .i64 0, .int .i64 0, .int .i64 0, .int .i64 0, .int .i64 0, .slice none 0 0]) ?_ 0 _ rfl; (with_reducible repeat (first | refine blk_drewN ?_ _ | refine blk_drew ?_ | refine blk_alloc ?_ _)); exact BK12111.out⟩
        have n3_ : Aside0 (Below w.heap.size w ((((((w16.setCell ⟨gb12111, 0, none⟩ (.int .i64 t12103)).setCell ⟨gb12111, 1, none⟩ (.int .i64 t12104)).setCell ⟨gb12111, 2, none⟩ (.int .i64 t12105)).setCell ⟨gb12111, 3, none⟩ (.int .i64 t12106)).setCell ⟨gb12111, 4, none⟩ (.int .i64 t12107)).setCell ⟨gb12111, 5, none⟩ (.slice Ao19 t12108.length co19))) := ⟨by repeat (first | (with_reducible first | exact HB.out | apply below_alloc | apply pw_below_drewN | apply below_drew1 | refine below_set ?_ GE12101.out | refine below_set ?_ GE12111.out) | exact HB.out)⟩
        (try clear HO12110)
        (try clear BK12101)
        (try clear BK12111)
        (try clear HB)
        generalize ((((((w16.setCell ⟨gb12111, 0, none⟩ (.int .i64 t12103)).setCell ⟨gb12111, 1, none⟩ (.int .i64 t12104)).setCell ⟨gb12111, 2, none⟩ (.int .i64 t12105)).setCell ⟨gb12111, 3, none⟩ (.int .i64 t12106)).setCell ⟨gb12111, 4, none⟩ (.int .i64 t12107)).setCell ⟨gb12111, 5, none⟩ (.slice Ao19 t12108.length co19)) = w24 at n0_ n1_ n2_ n3_ ⊢
        have HO12110 := n0_
        have BK12101 := n1_
        have BK12111 := n2_
        have HB := n3_
        clear n0_ n1_ n2_ n3_
        have n0_ := Aside0.mk (Kd.R_drew HO12110.out)
        have n1_ := Aside0.mk (blk_drew BK12101.out)
        have n2_ := Aside0.mk (blk_drew BK12111.out)
        have n3_ := Aside0.mk (below_drew1 HB.out)
        clear HO12110
        clear BK12101
        clear BK12111
        clear HB
        have HO12110 := n0_
        have BK12101 := n1_
        have BK12111 := n2_
        have HB := n3_
        clear n0_ n1_ n2_ n3_
        refine start_ (n := 10) (S := fun w' => w'.cell? ⟨gb12101, 0, none⟩ = some (.int .i64 a0_0) ∧ w'.cell? ⟨gb12101, 1, none⟩ = some (.int .i64 a0_1) ∧ w'.cell? ⟨gb12101, 2, none⟩ = some (.int .i64 a0_2) ∧ w'.cell? ⟨gb12101, 3, none⟩ = some (.int .i64 a0_3) ∧ w'.cell? ⟨gb12101, 4, none⟩ = some (.int .i64 a0_4) ∧ w'.cell? ⟨gb12101, 5, none⟩ = some (.slice A0_5 l0_5.length c0_5) ∧ w'.cell? ⟨gb12111, 0, none⟩ = some (.int .i64 t12103) ∧ w'.cell? ⟨gb12111, 1, none⟩ = some (.int .i64 t12104) ∧ w'.cell? ⟨gb12111, 2, none⟩ = some (.int .i64 t12105) ∧ w'.cell? ⟨gb12111, 3, none⟩ = some (.int .i64 t12106) ∧ w'.cell? ⟨gb12111, 4, none⟩ = some (.int .i64 t12107) ∧ w'.cell? ⟨gb12111, 5, none⟩ = some (.slice Ao19 t12108.length co19)) (ds := []) #[false, false, false, false, false, false, false, false, false, false] (by kernel_rfl) rfl rfl ⟨(blk_cell BK12101.out 0).trans rfl, (blk_cell BK12101.out 1).trans rfl, (blk_cell BK12101.out 2).trans rfl, (blk_cell BK12101.out 3).trans rfl, (blk_cell BK12101.out 4).trans rfl, (blk_cell BK12101.out 5).trans rfl, (blk_cell BK12111.out 0).trans rfl, (blk_cell BK12111.out 1).trans rfl, (blk_cell BK12111.out 2).trans rfl, (blk_cell BK12111.out 3).trans rfl, (blk_cell BK12111.out 4).trans rfl, (blk_cell BK12111.out 5).trans rfl⟩ (fun hHeld => ?_); refine with_tabW plaitinglaw3_ConfChecks.tab6 plaitinglaw3_ConfChecks.bits6 (fun HT_ HW_ => ?_)
        generalize w24.drew = w25 at HO12110 BK12101 BK12111 HB hHeld ⊢
        refine take_ (i := 0) (N := some 16) (v := ?_) (a' := ?_) #[true, false, false, false, false, false, false, false, false, false] rfl rfl (take_ofW HT_.out HW_.out (by kernel_rfl)) (fun _ _ _ h => h) (Or.inl ⟨by rfl, ?_⟩) hHeld ?_ ?_
        rotate_left
        · rintro w' ⟨s0, s1, s2, s3, s4, s5, s6, s7, s8, s9, s10, s11⟩
          go_simp
          with_reducible rfl
        rotate_left
        · simp only [Act.put, List.setIfInBounds_toArray, List.set_cons_zero, List.set_cons_succ, i64_w, i32_w]
          rfl
        refine take_ (i := 2) (N := some 18) (v := ?_) (a' := ?_) #[true, false, true, false, false, false, false, false, false, false] rfl rfl (take_ofW HT_.out HW_.out (by kernel_rfl)) (fun _ _ _ h => h) (Or.inl ⟨by rfl, ?_⟩) hHeld ?_ ?_
        rotate_left
        · rintro w' ⟨s0, s1, s2, s3, s4, s5, s6, s7, s8, s9, s10, s11⟩
          go_simp
          with_reducible rfl
        rotate_left
        · simp only [Act.put, List.setIfInBounds_toArray, List.set_cons_zero, List.set_cons_succ, i64_w, i32_w]
          rfl
        refine one_ (i := 1) (N := some 17) #[true, true, true, false, false, false, false, false, false, false] rfl rfl (one_of HT_.out (by kernel_rfl)) (by decide) (fun K hK => ?_)
        refine goes_ Try.func27 (by kernel_rfl) rfl #[.agg #[.int .i64 a0_0, .int .i64 a0_1, .int .i64 a0_2, .int .i64 a0_3, .int .i64 a0_4, .slice A0_5 l0_5.length c0_5]] (by rfl) rfl rfl (by (try simp only [List.map_toArray, List.map_cons, List.map_nil]); first | done | rfl | (simp only [List.length_drop, List.length_take]; rfl)) ?_
        with_reducible refine (conf_Check.calls a0_0 a0_1 a0_2 a0_3 a0_4 _ _ l0_5 t12112 _ ?side1 ?side2 A20.out).mono ?_
        (case side1 => repeat (first | exact (Kd.C_below HR0_5.out HB.out) | (with_reducible refine Kd.C_alloc ?_ _) | (with_reducible refine Kd.C_drewN ?_ _) | (with_reducible refine Kd.C_drew ?_)))
        (case side2 => exact HC0_5.out)
        rintro e w26 ⟨rfl, hb⟩
        refine ⟨_, rfl, ?_⟩
        have n0_ := Aside0.mk (Kd.R_below (by (with_reducible repeat (first | apply Kd.R_alloc | apply Kd.R_drewN | apply Kd.R_drew)); exact HO12110.out) hb)
        have n1_ := Aside0.mk (blk_below (g := gb12101) (o := .cells #[.int .i64 a0_0, .int .i64 a0_1, .int .i64 a0_2, .int .i64 a0_3, .int .i64 a0_4, .slice A0_5 l0_5.length c0_5] 35 (0, 0)) (by (with_reducible repeat (first | refine blk_drewN ?_ _ | refine blk_drew ?_ | refine blk_alloc ?_ _)); exact BK12101.out) hb)
        have n2_ := Aside0.mk (blk_below (g := gb12111) (o := .cells #[.int .i64 t12103, .int .i64 t12104, .int .i64 t12105, .int .i64 t12106, .int .i64 t12107, .slice Ao19 t12108.length co19] 35 (0, 0)) (by (with_reducible repeat (first | refine blk_drewN ?_ _ | refine blk_drew ?_ | refine blk_alloc ?_ _)); exact BK12111.out) hb)
        have n3_ := Aside0.mk (below_step (by repeat (first | (with_reducible first | exact HB.out | apply below_alloc | apply pw_below_drewN | apply below_drew1 | refine below_set ?_ GE12101.out | refine below_set ?_ GE12111.out) | exact HB.out)) hb)
        clear HO12110
        clear BK12101
        clear BK12111
        clear HB
        have HO12110 := n0_
        have BK12101 := n1_
        have BK12111 := n2_
        have HB := n3_
        clear n0_ n1_ n2_ n3_
        (try clear hb)
        (try clear hb2)
        (try clear hk)
        (try clear hi)
        refine hK.out _ _ ⟨(blk_cell BK12101.out 0).trans rfl, (blk_cell BK12101.out 1).trans rfl, (blk_cell BK12101.out 2).trans rfl, (blk_cell BK12101.out 3).trans rfl, (blk_cell BK12101.out 4).trans rfl, (blk_cell BK12101.out 5).trans rfl, (blk_cell BK12111.out 0).trans rfl, (blk_cell BK12111.out 1).trans rfl, (blk_cell BK12111.out 2).trans rfl, (blk_cell BK12111.out 3).trans rfl, (blk_cell BK12111.out 4).trans rfl, (blk_cell BK12111.out 5).trans rfl⟩ (fun hHeld => ?_)
        clear hK K
        refine norm_ (a' := ?_) ?_ ?_
        rotate_left
        · show Act.put _ (some 17) _ = _
          simp only [Act.put, List.setIfInBounds_toArray, List.set_cons_zero, List.set_cons_succ, i64_w, i32_w]
          rfl
        refine one_ (i := 3) (N := some 19) #[true, true, true, true, false, false, false, false, false, false] rfl rfl (one_of HT_.out (by kernel_rfl)) (by decide) (fun K hK => ?_)
        refine goes_ Try.func28 (by kernel_rfl) rfl #[.agg #[.int .i64 a0_0, .int .i64 a0_1, .int .i64 a0_2, .int .i64 a0_3, .int .i64 a0_4, .slice A0_5 l0_5.length c0_5]] (by rfl) rfl rfl (by (try simp only [List.map_toArray, List.map_cons, List.map_nil]); first | done | rfl | (simp only [List.length_drop, List.length_take]; rfl)) ?_
        with_reducible refine (plaitingref3_Check.calls k a0_0 a0_1 a0_2 a0_3 a0_4 _ _ l0_5 t12113 _ ?side1 ?side2 A21.out).mono ?_
        (case side1 => repeat (first | exact (Kd.C_below HR0_5.out HB.out) | (with_reducible refine Kd.C_alloc ?_ _) | (with_reducible refine Kd.C_drewN ?_ _) | (with_reducible refine Kd.C_drew ?_)))
        (case side2 => exact HC0_5.out)
        rintro e w27 ⟨rfl, hb⟩
        refine ⟨_, rfl, ?_⟩
        have n0_ := Aside0.mk (Kd.R_below (by (with_reducible repeat (first | apply Kd.R_alloc | apply Kd.R_drewN | apply Kd.R_drew)); exact HO12110.out) hb)
        have n1_ := Aside0.mk (blk_below (g := gb12101) (o := .cells #[.int .i64 a0_0, .int .i64 a0_1, .int .i64 a0_2, .int .i64 a0_3, .int .i64 a0_4, .slice A0_5 l0_5.length c0_5] 35 (0, 0)) (by (with_reducible repeat (first | refine blk_drewN ?_ _ | refine blk_drew ?_ | refine blk_alloc ?_ _)); exact BK12101.out) hb)
        have n2_ := Aside0.mk (blk_below (g := gb12111) (o := .cells #[.int .i64 t12103, .int .i64 t12104, .int .i64 t12105, .int .i64 t12106, .int .i64 t12107, .slice Ao19 t12108.length co19] 35 (0, 0)) (by (with_reducible repeat (first | refine blk_drewN ?_ _ | refine blk_drew ?_ | refine blk_alloc ?_ _)); exact BK12111.out) hb)
        have n3_ := Aside0.mk (below_step (by repeat (first | (with_reducible first | exact HB.out | apply below_alloc | apply pw_below_drewN | apply below_drew1 | refine below_set ?_ GE12101.out | refine below_set ?_ GE12111.out) | exact HB.out)) hb)
        clear HO12110
        clear BK12101
        clear BK12111
        clear HB
        have HO12110 := n0_
        have BK12101 := n1_
        have BK12111 := n2_
        have HB := n3_
        clear n0_ n1_ n2_ n3_
        (try clear hb)
        (try clear hb2)
        (try clear hk)
        (try clear hi)
        refine hK.out _ _ ⟨(blk_cell BK12101.out 0).trans rfl, (blk_cell BK12101.out 1).trans rfl, (blk_cell BK12101.out 2).trans rfl, (blk_cell BK12101.out 3).trans rfl, (blk_cell BK12101.out 4).trans rfl, (blk_cell BK12101.out 5).trans rfl, (blk_cell BK12111.out 0).trans rfl, (blk_cell BK12111.out 1).trans rfl, (blk_cell BK12111.out 2).trans rfl, (blk_cell BK12111.out 3).trans rfl, (blk_cell BK12111.out 4).trans rfl, (blk_cell BK12111.out 5).trans rfl⟩ (fun hHeld => ?_)
        clear hK K
        refine norm_ (a' := ?_) ?_ ?_
        rotate_left
        · show Act.put _ (some 19) _ = _
          simp only [Act.put, List.setIfInBounds_toArray, List.set_cons_zero, List.set_cons_succ, i64_w, i32_w]
          rfl
        refine pure_ (i := 4) (N := some 20) (v := ?_) (a' := ?_) #[true, true, true, true, true, false, false, false, false, false] rfl rfl (any_of HT_.out (by kernel_rfl)) (fun _ _ _ h => h) (Or.inl ⟨by rfl, ?_⟩) ?_ ?_
        rotate_left
        · intro w'
          go_simp
          with_reducible rfl
        rotate_left
        · simp only [Act.put, List.setIfInBounds_toArray, List.set_cons_zero, List.set_cons_succ, i64_w, i32_w]
          rfl
        refine pure_ (i := 5) (N := some 21) (v := ?_) (a' := ?_) #[true, true, true, true, true, true, false, false, false, false] rfl rfl (any_of HT_.out (by kernel_rfl)) (fun _ _ _ h => h) (Or.inl ⟨by rfl, ?_⟩) ?_ ?_
        rotate_left
        · intro w'
          go_simp
          with_reducible rfl
        rotate_left
        · simp only [Act.put, List.setIfInBounds_toArray, List.set_cons_zero, List.set_cons_succ, i64_w, i32_w]
          rfl
        refine take_ (i := 6) (N := some 22) (v := ?_) (a' := ?_) #[true, true, true, true, true, true, true, false, false, false] rfl rfl (take_ofW HT_.out HW_.out (by kernel_rfl)) (fun _ _ _ h => h) (Or.inl ⟨by rfl, ?_⟩) hHeld ?_ ?_
        rotate_left
        · rintro w' ⟨s0, s1, s2, s3, s4, s5, s6, s7, s8, s9, s10, s11⟩
          go_simp
          with_reducible rfl
        rotate_left
        · simp only [Act.put, List.setIfInBounds_toArray, List.set_cons_zero, List.set_cons_succ, i64_w, i32_w]
          rfl
        refine one_ (i := 7) (N := some 23) #[true, true, true, true, true, true, true, true, false, false] rfl rfl (one_of HT_.out (by kernel_rfl)) (by decide) (fun K hK => ?_)
        refine goes_ Try.func27 (by kernel_rfl) rfl #[.agg #[.int .i64 t12103, .int .i64 t12104, .int .i64 t12105, .int .i64 t12106, .int .i64 t12107, .slice Ao19 t12108.length co19]] (by rfl) rfl rfl (by (try simp only [List.map_toArray, List.map_cons, List.map_nil]); first | done | rfl | (simp only [List.length_drop, List.length_take]; rfl)) ?_
        with_reducible refine (conf_Check.calls t12103 t12104 t12105 t12106 t12107 _ _ t12108 t12114 _ ?side1 ?side2 A23.out).mono ?_
        (case side1 => repeat (first | exact (Kd.R_reads' HO12110.out).2.2 | (with_reducible refine Kd.C_alloc ?_ _) | (with_reducible refine Kd.C_drewN ?_ _) | (with_reducible refine Kd.C_drew ?_)))
        (case side2 => exact (Kd.R_reads' HO12110.out).2.1)
        rintro e w28 ⟨rfl, hb⟩
        refine ⟨_, rfl, ?_⟩
        have n0_ := Aside0.mk (Kd.R_below (by (with_reducible repeat (first | apply Kd.R_alloc | apply Kd.R_drewN | apply Kd.R_drew)); exact HO12110.out) hb)
        have n1_ := Aside0.mk (blk_below (g := gb12101) (o := .cells #[.int .i64 a0_0, .int .i64 a0_1, .int .i64 a0_2, .int .i64 a0_3, .int .i64 a0_4, .slice A0_5 l0_5.length c0_5] 35 (0, 0)) (by (with_reducible repeat (first | refine blk_drewN ?_ _ | refine blk_drew ?_ | refine blk_alloc ?_ _)); exact BK12101.out) hb)
        have n2_ := Aside0.mk (blk_below (g := gb12111) (o := .cells #[.int .i64 t12103, .int .i64 t12104, .int .i64 t12105, .int .i64 t12106, .int .i64 t12107, .slice Ao19 t12108.length co19] 35 (0, 0)) (by (with_reducible repeat (first | refine blk_drewN ?_ _ | refine blk_drew ?_ | refine blk_alloc ?_ _)); exact BK12111.out) hb)
        have n3_ := Aside0.mk (below_step (by repeat (first | (with_reducible first | exact HB.out | apply below_alloc | apply pw_below_drewN | apply below_drew1 | refine below_set ?_ GE12101.out | refine below_set ?_ GE12111.out) | exact HB.out)) hb)
        clear HO12110
        clear BK12101
        clear BK12111
        clear HB
        have HO12110 := n0_
        have BK12101 := n1_
        have BK12111 := n2_
        have HB := n3_
        clear n0_ n1_ n2_ n3_
        (try clear hb)
        (try clear hb2)
        (try clear hk)
        (try clear hi)
        refine hK.out _ _ ⟨(blk_cell BK12101.out 0).trans rfl, (blk_cell BK12101.out 1).trans rfl, (blk_cell BK12101.out 2).trans rfl, (blk_cell BK12101.out 3).trans rfl, (blk_cell BK12101.out 4).trans rfl, (blk_cell BK12101.out 5).trans rfl, (blk_cell BK12111.out 0).trans rfl, (blk_cell BK12111.out 1).trans rfl, (blk_cell BK12111.out 2).trans rfl, (blk_cell BK12111.out 3).trans rfl, (blk_cell BK12111.out 4).trans rfl, (blk_cell BK12111.out 5).trans rfl⟩ (fun hHeld => ?_)
        clear hK K
        refine norm_ (a' := ?_) ?_ ?_
        rotate_left
        · show Act.put _ (some 23) _ = _
          simp only [Act.put, List.setIfInBounds_toArray, List.set_cons_zero, List.set_cons_succ, i64_w, i32_w]
          rfl
        refine pure_ (i := 8) (N := some 24) (v := ?_) (a' := ?_) #[true, true, true, true, true, true, true, true, true, false] rfl rfl (any_of HT_.out (by kernel_rfl)) (fun _ _ _ h => h) (Or.inl ⟨by rfl, ?_⟩) ?_ ?_
        rotate_left
        · intro w'
          go_simp
          with_reducible rfl
        rotate_left
        · simp only [Act.put, List.setIfInBounds_toArray, List.set_cons_zero, List.set_cons_succ, i64_w, i32_w]
          rfl
        refine pure_ (i := 9) (N := some 25) (v := ?_) (a' := ?_) #[true, true, true, true, true, true, true, true, true, true] rfl rfl (any_of HT_.out (by kernel_rfl)) (fun _ _ _ h => h) (Or.inl ⟨by rfl, ?_⟩) ?_ ?_
        rotate_left
        · intro w'
          go_simp
          with_reducible rfl
        rotate_left
        · simp only [Act.put, List.setIfInBounds_toArray, List.set_cons_zero, List.set_cons_succ, i64_w, i32_w]
          rfl
        refine done_ (done_of HT_.out (by kernel_rfl)) ?_
        try go_wp2
        go_meet
        case rel => exact ⟨_, ((t12114 != 0)), (by first | rfl | (simp; done) | (simp [*]; done)), H', ⟨by first | omega | exact Nat.le_refl _⟩, ⟨by (with_reducible repeat (first | apply Kd.R_alloc | apply Kd.R_drewN | apply Kd.R_drew)); exact HO12110.out⟩, ⟨by (with_reducible repeat (first | refine blk_drewN ?_ _ | refine blk_drew ?_ | refine blk_alloc ?_ _)); exact BK12101.out⟩, ⟨by (with_reducible repeat (first | refine blk_drewN ?_ _ | refine blk_drew ?_ | refine blk_alloc ?_ _)); exact BK12111.out⟩, ⟨by repeat (first | (with_reducible first | exact HB.out | apply below_alloc | apply pw_below_drewN | apply below_drew1 | refine below_set ?_ GE12101.out | refine below_set ?_ GE12111.out) | exact HB.out)⟩⟩
      rw [if_neg c22] at H
      have c22b0 : (t12112 == t12113) = false := beq_eq_false_iff_ne.mpr c22
      have c22b1 : (t12112 != t12113) = true := bne_iff_ne.mpr c22
      (first | rw [c22b0] | (simp only [i64_w, i32_w]; rw [c22b0]) | skip)
      have H' := Aside0.mk H
      clear H
      try go_wp2
      (try (rw [drewN_self w16]; generalize hq_ : World.drewN w16 _ = w16; have n0_ := Aside0.mk (Kd.R_at hq_ HO12110.out); have n1_ := Aside0.mk (blk_at hq_ BK12101.out); have n2_ := Aside0.mk (blk_at hq_ BK12111.out); have n3_ := Aside0.mk (below_at hq_ HB.out); clear hq_ HO12110 BK12101 BK12111 HB; have HO12110 := n0_; have BK12101 := n1_; have BK12111 := n2_; have HB := n3_; clear n0_ n1_ n2_ n3_))
      have n0_ : Aside0 (Kd.R (Kd.int .i64) 3 ((((((w16.setCell ⟨gb12111, 0, none⟩ (.int .i64 t12103)).setCell ⟨gb12111, 1, none⟩ (.int .i64 t12104)).setCell ⟨gb12111, 2, none⟩ (.int .i64 t12105)).setCell ⟨gb12111, 3, none⟩ (.int .i64 t12106)).setCell ⟨gb12111, 4, none⟩ (.int .i64 t12107)).setCell ⟨gb12111, 5, none⟩ (.slice Ao19 t12108.length co19)) w.heap.size (fun _ => True) (.slice Ao19 t12108.length co19) t12108) := ⟨by (with_reducible repeat (first | apply Kd.R_alloc | apply Kd.R_drewN | apply Kd.R_drew)); exact Kd.R_mono (Kd.R_far (p := ⟨gb12111, 5, none⟩) (Kd.R_far (p := ⟨gb12111, 4, none⟩) (Kd.R_far (p := ⟨gb12111, 3, none⟩) (Kd.R_far (p := ⟨gb12111, 2, none⟩) (Kd.R_far (p := ⟨gb12111, 1, none⟩) (Kd.R_far (p := ⟨gb12111, 0, none⟩) (Kd.R_types HO12110.out BK12111.out (by decide)) (fun _ hk => hk.2) (.int .i64 t12103)) (fun _ hk => hk.2) (.int .i64 t12104)) (fun _ hk => hk.2) (.int .i64 t12105)) (fun _ hk => hk.2) (.int .i64 t12106)) (fun _ hk => hk.2) (.int .i64 t12107)) (fun _ hk => hk.2) (.slice Ao19 t12108.length co19)) (fun _ hk => trivial)⟩
      have n1_ : Aside0 (((((((w16.setCell ⟨gb12111, 0, none⟩ (.int .i64 t12103)).setCell ⟨gb12111, 1, none⟩ (.int .i64 t12104)).setCell ⟨gb12111, 2, none⟩ (.int .i64 t12105)).setCell ⟨gb12111, 3, none⟩ (.int .i64 t12106)).setCell ⟨gb12111, 4, none⟩ (.int .i64 t12107)).setCell ⟨gb12111, 5, none⟩ (.slice Ao19 t12108.length co19)).heap[gb12101]? = some (.cells #[.int .i64 a0_0, .int .i64 a0_1, .int .i64 a0_2, .int .i64 a0_3, .int .i64 a0_4, .slice A0_5 l0_5.length c0_5] 35 (0, 0))) := ⟨by (with_reducible repeat (first | refine blk_drewN ?_ _ | refine blk_drew ?_ | refine blk_alloc ?_ _)); refine blk_far ?_ NB12101_12111.out _; (with_reducible repeat (first | refine blk_drewN ?_ _ | refine blk_drew ?_ | refine blk_alloc ?_ _)); refine blk_far ?_ NB12101_12111.out _; (with_reducible repeat (first | refine blk_drewN ?_ _ | refine blk_drew ?_ | refine blk_alloc ?_ _)); refine blk_far ?_ NB12101_12111.out _; (with_reducible repeat (first | refine blk_drewN ?_ _ | refine blk_drew ?_ | refine blk_alloc ?_ _)); refine blk_far ?_ NB12101_12111.out _; (with_reducible repeat (first | refine blk_drewN ?_ _ | refine blk_drew ?_ | refine blk_alloc ?_ _)); refine blk_far ?_ NB12101_12111.out _; (with_reducible repeat (first | refine blk_drewN ?_ _ | refine blk_drew ?_ | refine blk_alloc ?_ _)); refine blk_far ?_ NB12101_12111.out _; (with_reducible repeat (first | refine blk_drewN ?_ _ | refine blk_drew ?_ | refine blk_alloc ?_ _)); exact BK12101.out⟩
      have n2_ : Aside0 (((((((w16.setCell ⟨gb12111, 0, none⟩ (.int .i64 t12103)).setCell ⟨gb12111, 1, none⟩ (.int .i64 t12104)).setCell ⟨gb12111, 2, none⟩ (.int .i64 t12105)).setCell ⟨gb12111, 3, none⟩ (.int .i64 t12106)).setCell ⟨gb12111, 4, none⟩ (.int .i64 t12107)).setCell ⟨gb12111, 5, none⟩ (.slice Ao19 t12108.length co19)).heap[gb12111]? = some (.cells #[.int .i64 t12103, .int .i64 t12104, .int .i64 t12105, .int .i64 t12106, .int .i64 t12107, .slice Ao19 t12108.length co19] 35 (0, 0))) := ⟨by (with_reducible repeat (first | refine blk_drewN ?_ _ | refine blk_drew ?_ | refine blk_alloc ?_ _)); refine blk_put (cs := #[.int .i64 t12103, .int .i64 t12104, .int .i64 t12105, .int .i64 t12106, .int .i64 t12107, .slice none 0 0]) ?_ 5 _ rfl; (with_reducible repeat (first | refine blk_drewN ?_ _ | refine blk_drew ?_ | refine blk_alloc ?_ _)); refine blk_put (cs := #[.int .i64 t12103, .int .i64 t12104, .int .i64 t12105, .int .i64 t12106, .int .i64 0, .slice none 0 0]) ?_ 4 _ rfl; (with_reducible repeat (first | refine blk_drewN ?_ _ | refine blk_drew ?_ | refine blk_alloc ?_ _)); refine blk_put (cs := #[.int .i64 t12103, .int .i64 t12104, .int .i64 t12105, .int .i64 0, .int .i64 0, .slice none 0 0]) ?_ 3 _ rfl; (with_reducible repeat (first | refine blk_drewN ?_ _ | refine blk_drew ?_ | refine blk_alloc ?_ _)); refine blk_put (cs := #[.int .i64 t12103, .int .i64 t12104, .int .i64 0, .int .i64 0, .int .i64 0, .slice none 0 0]) ?_ 2 _ rfl; (with_reducible repeat (first | refine blk_drewN ?_ _ | refine blk_drew ?_ | refine blk_alloc ?_ _)); refine blk_put (cs := #[.int .i64 t12103, .int .i64 0, .int .i64 0, .int .i64 0, .int .i64 0, .slice none 0 0]) ?_ 1 _ rfl; (with_reducible repeat (first | refine blk_drewN ?_ _ | refine blk_drew ?_ | refine blk_alloc ?_ _)); refine blk_put (cs := #[.int .i64 0, .int .i64 0, .int .i64 0, .int .i64 0, .int .i64 0, .slice none 0 0]) ?_ 0 _ rfl; (with_reducible repeat (first | refine blk_drewN ?_ _ | refine blk_drew ?_ | refine blk_alloc ?_ _)); exact BK12111.out⟩
      have n3_ : Aside0 (Below w.heap.size w ((((((w16.setCell ⟨gb12111, 0, none⟩ (.int .i64 t12103)).setCell ⟨gb12111, 1, none⟩ (.int .i64 t12104)).setCell ⟨gb12111, 2, none⟩ (.int .i64 t12105)).setCell ⟨gb12111, 3, none⟩ (.int .i64 t12106)).setCell ⟨gb12111, 4, none⟩ (.int .i64 t12107)).setCell ⟨gb12111, 5, none⟩ (.slice Ao19 t12108.length co19))) := ⟨by repeat (first | (with_reducible first | exact HB.out | apply below_alloc | apply pw_below_drewN | apply below_drew1 | refine below_set ?_ GE12101.out | refine below_set ?_ GE12111.out) | exact HB.out)⟩
      (try clear HO12110)
      (try clear BK12101)
      (try clear BK12111)
      (try clear HB)
      generalize ((((((w16.setCell ⟨gb12111, 0, none⟩ (.int .i64 t12103)).setCell ⟨gb12111, 1, none⟩ (.int .i64 t12104)).setCell ⟨gb12111, 2, none⟩ (.int .i64 t12105)).setCell ⟨gb12111, 3, none⟩ (.int .i64 t12106)).setCell ⟨gb12111, 4, none⟩ (.int .i64 t12107)).setCell ⟨gb12111, 5, none⟩ (.slice Ao19 t12108.length co19)) = w29 at n0_ n1_ n2_ n3_ ⊢
      have HO12110 := n0_
      have BK12101 := n1_
      have BK12111 := n2_
      have HB := n3_
      clear n0_ n1_ n2_ n3_
      have n0_ := Aside0.mk (Kd.R_drew HO12110.out)
      have n1_ := Aside0.mk (blk_drew BK12101.out)
      have n2_ := Aside0.mk (blk_drew BK12111.out)
      have n3_ := Aside0.mk (below_drew1 HB.out)
      clear HO12110
      clear BK12101
      clear BK12111
      clear HB
      have HO12110 := n0_
      have BK12101 := n1_
      have BK12111 := n2_
      have HB := n3_
      clear n0_ n1_ n2_ n3_
      refine start_ (n := 10) (S := fun w' => w'.cell? ⟨gb12101, 0, none⟩ = some (.int .i64 a0_0) ∧ w'.cell? ⟨gb12101, 1, none⟩ = some (.int .i64 a0_1) ∧ w'.cell? ⟨gb12101, 2, none⟩ = some (.int .i64 a0_2) ∧ w'.cell? ⟨gb12101, 3, none⟩ = some (.int .i64 a0_3) ∧ w'.cell? ⟨gb12101, 4, none⟩ = some (.int .i64 a0_4) ∧ w'.cell? ⟨gb12101, 5, none⟩ = some (.slice A0_5 l0_5.length c0_5)) (ds := []) #[false, false, false, false, false, false, false, false, false, false] (by kernel_rfl) rfl rfl ⟨(blk_cell BK12101.out 0).trans rfl, (blk_cell BK12101.out 1).trans rfl, (blk_cell BK12101.out 2).trans rfl, (blk_cell BK12101.out 3).trans rfl, (blk_cell BK12101.out 4).trans rfl, (blk_cell BK12101.out 5).trans rfl⟩ (fun hHeld => ?_); refine with_tabW plaitinglaw3_ConfChecks.tab6 plaitinglaw3_ConfChecks.bits6 (fun HT_ HW_ => ?_)
      generalize w29.drew = w30 at HO12110 BK12101 BK12111 HB hHeld ⊢
      refine take_ (i := 0) (N := some 16) (v := ?_) (a' := ?_) #[true, false, false, false, false, false, false, false, false, false] rfl rfl (take_ofW HT_.out HW_.out (by kernel_rfl)) (fun _ _ _ h => h) (Or.inl ⟨by rfl, ?_⟩) hHeld ?_ ?_
      rotate_left
      · rintro w' ⟨s0, s1, s2, s3, s4, s5⟩
        go_simp
        with_reducible rfl
      rotate_left
      · simp only [Act.put, List.setIfInBounds_toArray, List.set_cons_zero, List.set_cons_succ, i64_w, i32_w]
        rfl
      refine take_ (i := 2) (N := some 18) (v := ?_) (a' := ?_) #[true, false, true, false, false, false, false, false, false, false] rfl rfl (take_ofW HT_.out HW_.out (by kernel_rfl)) (fun _ _ _ h => h) (Or.inl ⟨by rfl, ?_⟩) hHeld ?_ ?_
      rotate_left
      · rintro w' ⟨s0, s1, s2, s3, s4, s5⟩
        go_simp
        with_reducible rfl
      rotate_left
      · simp only [Act.put, List.setIfInBounds_toArray, List.set_cons_zero, List.set_cons_succ, i64_w, i32_w]
        rfl
      refine one_ (i := 1) (N := some 17) #[true, true, true, false, false, false, false, false, false, false] rfl rfl (one_of HT_.out (by kernel_rfl)) (by decide) (fun K hK => ?_)
      refine goes_ Try.func27 (by kernel_rfl) rfl #[.agg #[.int .i64 a0_0, .int .i64 a0_1, .int .i64 a0_2, .int .i64 a0_3, .int .i64 a0_4, .slice A0_5 l0_5.length c0_5]] (by rfl) rfl rfl (by (try simp only [List.map_toArray, List.map_cons, List.map_nil]); first | done | rfl | (simp only [List.length_drop, List.length_take]; rfl)) ?_
      with_reducible refine (conf_Check.calls a0_0 a0_1 a0_2 a0_3 a0_4 _ _ l0_5 t12112 _ ?side1 ?side2 A20.out).mono ?_
      (case side1 => repeat (first | exact (Kd.C_below HR0_5.out HB.out) | (with_reducible refine Kd.C_alloc ?_ _) | (with_reducible refine Kd.C_drewN ?_ _) | (with_reducible refine Kd.C_drew ?_)))
      (case side2 => exact HC0_5.out)
      rintro e w31 ⟨rfl, hb⟩
      refine ⟨_, rfl, ?_⟩
      have n0_ := Aside0.mk (Kd.R_below (by (with_reducible repeat (first | apply Kd.R_alloc | apply Kd.R_drewN | apply Kd.R_drew)); exact HO12110.out) hb)
      have n1_ := Aside0.mk (blk_below (g := gb12101) (o := .cells #[.int .i64 a0_0, .int .i64 a0_1, .int .i64 a0_2, .int .i64 a0_3, .int .i64 a0_4, .slice A0_5 l0_5.length c0_5] 35 (0, 0)) (by (with_reducible repeat (first | refine blk_drewN ?_ _ | refine blk_drew ?_ | refine blk_alloc ?_ _)); exact BK12101.out) hb)
      have n2_ := Aside0.mk (blk_below (g := gb12111) (o := .cells #[.int .i64 t12103, .int .i64 t12104, .int .i64 t12105, .int .i64 t12106, .int .i64 t12107, .slice Ao19 t12108.length co19] 35 (0, 0)) (by (with_reducible repeat (first | refine blk_drewN ?_ _ | refine blk_drew ?_ | refine blk_alloc ?_ _)); exact BK12111.out) hb)
      have n3_ := Aside0.mk (below_step (by repeat (first | (with_reducible first | exact HB.out | apply below_alloc | apply pw_below_drewN | apply below_drew1 | refine below_set ?_ GE12101.out | refine below_set ?_ GE12111.out) | exact HB.out)) hb)
      clear HO12110
      clear BK12101
      clear BK12111
      clear HB
      have HO12110 := n0_
      have BK12101 := n1_
      have BK12111 := n2_
      have HB := n3_
      clear n0_ n1_ n2_ n3_
      (try clear hb)
      (try clear hb2)
      (try clear hk)
      (try clear hi)
      refine hK.out _ _ ⟨(blk_cell BK12101.out 0).trans rfl, (blk_cell BK12101.out 1).trans rfl, (blk_cell BK12101.out 2).trans rfl, (blk_cell BK12101.out 3).trans rfl, (blk_cell BK12101.out 4).trans rfl, (blk_cell BK12101.out 5).trans rfl⟩ (fun hHeld => ?_)
      clear hK K
      refine norm_ (a' := ?_) ?_ ?_
      rotate_left
      · show Act.put _ (some 17) _ = _
        simp only [Act.put, List.setIfInBounds_toArray, List.set_cons_zero, List.set_cons_succ, i64_w, i32_w]
        rfl
      refine one_ (i := 3) (N := some 19) #[true, true, true, true, false, false, false, false, false, false] rfl rfl (one_of HT_.out (by kernel_rfl)) (by decide) (fun K hK => ?_)
      refine goes_ Try.func28 (by kernel_rfl) rfl #[.agg #[.int .i64 a0_0, .int .i64 a0_1, .int .i64 a0_2, .int .i64 a0_3, .int .i64 a0_4, .slice A0_5 l0_5.length c0_5]] (by rfl) rfl rfl (by (try simp only [List.map_toArray, List.map_cons, List.map_nil]); first | done | rfl | (simp only [List.length_drop, List.length_take]; rfl)) ?_
      with_reducible refine (plaitingref3_Check.calls k a0_0 a0_1 a0_2 a0_3 a0_4 _ _ l0_5 t12113 _ ?side1 ?side2 A21.out).mono ?_
      (case side1 => repeat (first | exact (Kd.C_below HR0_5.out HB.out) | (with_reducible refine Kd.C_alloc ?_ _) | (with_reducible refine Kd.C_drewN ?_ _) | (with_reducible refine Kd.C_drew ?_)))
      (case side2 => exact HC0_5.out)
      rintro e w32 ⟨rfl, hb⟩
      refine ⟨_, rfl, ?_⟩
      have n0_ := Aside0.mk (Kd.R_below (by (with_reducible repeat (first | apply Kd.R_alloc | apply Kd.R_drewN | apply Kd.R_drew)); exact HO12110.out) hb)
      have n1_ := Aside0.mk (blk_below (g := gb12101) (o := .cells #[.int .i64 a0_0, .int .i64 a0_1, .int .i64 a0_2, .int .i64 a0_3, .int .i64 a0_4, .slice A0_5 l0_5.length c0_5] 35 (0, 0)) (by (with_reducible repeat (first | refine blk_drewN ?_ _ | refine blk_drew ?_ | refine blk_alloc ?_ _)); exact BK12101.out) hb)
      have n2_ := Aside0.mk (blk_below (g := gb12111) (o := .cells #[.int .i64 t12103, .int .i64 t12104, .int .i64 t12105, .int .i64 t12106, .int .i64 t12107, .slice Ao19 t12108.length co19] 35 (0, 0)) (by (with_reducible repeat (first | refine blk_drewN ?_ _ | refine blk_drew ?_ | refine blk_alloc ?_ _)); exact BK12111.out) hb)
      have n3_ := Aside0.mk (below_step (by repeat (first | (with_reducible first | exact HB.out | apply below_alloc | apply pw_below_drewN | apply below_drew1 | refine below_set ?_ GE12101.out | refine below_set ?_ GE12111.out) | exact HB.out)) hb)
      clear HO12110
      clear BK12101
      clear BK12111
      clear HB
      have HO12110 := n0_
      have BK12101 := n1_
      have BK12111 := n2_
      have HB := n3_
      clear n0_ n1_ n2_ n3_
      (try clear hb)
      (try clear hb2)
      (try clear hk)
      (try clear hi)
      refine hK.out _ _ ⟨(blk_cell BK12101.out 0).trans rfl, (blk_cell BK12101.out 1).trans rfl, (blk_cell BK12101.out 2).trans rfl, (blk_cell BK12101.out 3).trans rfl, (blk_cell BK12101.out 4).trans rfl, (blk_cell BK12101.out 5).trans rfl⟩ (fun hHeld => ?_)
      clear hK K
      refine norm_ (a' := ?_) ?_ ?_
      rotate_left
      · show Act.put _ (some 19) _ = _
        simp only [Act.put, List.setIfInBounds_toArray, List.set_cons_zero, List.set_cons_succ, i64_w, i32_w]
        rfl
      refine pure_ (i := 4) (N := some 20) (v := ?_) (a' := ?_) #[true, true, true, true, true, false, false, false, false, false] rfl rfl (any_of HT_.out (by kernel_rfl)) (fun _ _ _ h => h) (Or.inl ⟨by rfl, ?_⟩) ?_ ?_
      rotate_left
      · intro w'
        go_simp
        with_reducible rfl
      rotate_left
      · simp only [Act.put, List.setIfInBounds_toArray, List.set_cons_zero, List.set_cons_succ, i64_w, i32_w]
        rfl
      refine pure_ (i := 5) (N := some 21) (v := ?_) (a' := ?_) #[true, true, true, true, true, true, false, false, false, false] rfl rfl (any_of HT_.out (by kernel_rfl)) (fun _ _ _ h => h) (Or.inl ⟨by rfl, ?_⟩) ?_ ?_
      rotate_left
      · intro w'
        go_simp
        with_reducible rfl
      rotate_left
      · simp only [Act.put, List.setIfInBounds_toArray, List.set_cons_zero, List.set_cons_succ, i64_w, i32_w]
        rfl
      refine pure_ (i := 6) (N := some 22) (v := undef) (a' := ?_) #[true, true, true, true, true, true, true, false, false, false] rfl rfl (any_of HT_.out (by kernel_rfl)) (fun _ _ _ h => h) (Or.inr ⟨by rfl, rfl⟩) ?_ ?_
      rotate_left
      · simp only [Act.put, List.setIfInBounds_toArray, List.set_cons_zero, List.set_cons_succ, i64_w, i32_w]
        rfl
      refine pure_ (i := 7) (N := some 23) (v := undef) (a' := ?_) #[true, true, true, true, true, true, true, true, false, false] rfl rfl (any_of HT_.out (by kernel_rfl)) (fun _ _ _ h => h) (Or.inr ⟨by rfl, rfl⟩) ?_ ?_
      rotate_left
      · simp only [Act.put, List.setIfInBounds_toArray, List.set_cons_zero, List.set_cons_succ, i64_w, i32_w]
        rfl
      refine pure_ (i := 8) (N := some 24) (v := undef) (a' := ?_) #[true, true, true, true, true, true, true, true, true, false] rfl rfl (any_of HT_.out (by kernel_rfl)) (fun _ _ _ h => h) (Or.inr ⟨by rfl, rfl⟩) ?_ ?_
      rotate_left
      · simp only [Act.put, List.setIfInBounds_toArray, List.set_cons_zero, List.set_cons_succ, i64_w, i32_w]
        rfl
      refine pure_ (i := 9) (N := some 25) (v := ?_) (a' := ?_) #[true, true, true, true, true, true, true, true, true, true] rfl rfl (any_of HT_.out (by kernel_rfl)) (fun _ _ _ h => h) (Or.inl ⟨by rfl, ?_⟩) ?_ ?_
      rotate_left
      · intro w'
        go_simp
        with_reducible rfl
      rotate_left
      · simp only [Act.put, List.setIfInBounds_toArray, List.set_cons_zero, List.set_cons_succ, i64_w, i32_w]
        rfl
      refine done_ (done_of HT_.out (by kernel_rfl)) ?_
      try go_wp2
      go_meet
      case rel => exact ⟨_, (true), (by first | rfl | (simp; done) | (simp [*]; done)), H', ⟨by first | omega | exact Nat.le_refl _⟩, ⟨by (with_reducible repeat (first | apply Kd.R_alloc | apply Kd.R_drewN | apply Kd.R_drew)); exact HO12110.out⟩, ⟨by (with_reducible repeat (first | refine blk_drewN ?_ _ | refine blk_drew ?_ | refine blk_alloc ?_ _)); exact BK12101.out⟩, ⟨by (with_reducible repeat (first | refine blk_drewN ?_ _ | refine blk_drew ?_ | refine blk_alloc ?_ _)); exact BK12111.out⟩, ⟨by repeat (first | (with_reducible first | exact HB.out | apply below_alloc | apply pw_below_drewN | apply below_drew1 | refine below_set ?_ GE12101.out | refine below_set ?_ GE12111.out) | exact HB.out)⟩⟩
    case rest =>
      clear HC11
      try clear c1
      try clear c2
      try clear p2
      try clear c5
      try clear c6
      try clear c6b0
      try clear c6b1
      try clear c17
      try clear c22
      try clear c22b0
      try clear c22b1
      try clear c25
      try clear c26
      try clear c27
      try clear c28
      try clear hcz14_0
      try clear hcz14_1
      try clear hcz14_2
      try clear hcz14_3
      try clear hcz14_4
      try clear hcz14_5
      try clear hcz18_0
      try clear hcz18_1
      try clear hcz18_2
      try clear hcz18_3
      try clear hcz18_4
      try clear hcz18_5
      try clear hcz9_0
      try clear hcz9_1
      try clear hcz9_2
      try clear hcz9_3
      try clear hcz9_4
      try clear hcz9_5
      try clear hfz14_0
      try clear hfz14_1
      try clear hfz14_2
      try clear hfz14_3
      try clear hfz14_4
      try clear hfz14_5
      try clear hfz18_0
      try clear hfz18_1
      try clear hfz18_2
      try clear hfz18_3
      try clear hfz18_4
      try clear hfz18_5
      try clear hfz9_0
      try clear hfz9_1
      try clear hfz9_2
      try clear hfz9_3
      try clear hfz9_4
      try clear hfz9_5
      obtain ⟨kq, x25_10, rfl, HA, HJ10, HO_12112005, BK12101, BK12111, HB⟩ := hcut
      cases kq with
      | zero => exact absurd HA.out (by simp [plaitinglaw3_ConfChecks.j0])
      | succ kj10 =>
        have H := HA.out
        clear HA
        simp only [plaitinglaw3_ConfChecks.j0] at H
        by_cases c33 : x25_10 = true
        · subst c33
          have H1 : (some false) = some r := by rw [if_pos rfl] at H; exact H
          clear H
          have H := H1
          clear H1
          exact absurd ((Option.some.inj H).trans HRT.out) (by decide)
        replace c33 := Bool.eq_false_iff.mpr c33
        subst c33
        have H1 : ((plaitinglaw3_within.f a1 8).bind fun t12115 => (if t12115 = 0 then ((conf_Check.f a2 t12104 t12105 t12106 t12107 t12108).bind fun t12116 => ((plaitingref3_Check.f kj10 a2 t12104 t12105 t12106 t12107 t12108).bind fun t12117 => (some (t12116 == t12117)))) else (if t12115 = 1 then ((conf_Check.f t12103 t12104 a2 t12106 t12107 t12108).bind fun t12118 => ((plaitingref3_Check.f kj10 t12103 t12104 a2 t12106 t12107 t12108).bind fun t12119 => (some (t12118 == t12119)))) else (if t12115 = 2 then ((conf_Check.f t12103 t12104 t12105 a2 t12107 t12108).bind fun t12120 => ((plaitingref3_Check.f kj10 t12103 t12104 t12105 a2 t12107 t12108).bind fun t12121 => (some (t12120 == t12121)))) else (if t12115 = 3 then ((plaitinglaw3_within.f a2 2).bind fun t12122 => ((conf_Check.f t12103 (wrap64 ((wrap64 ((wrap64 (4 * (wrap64 ((wrap64 (t12105 + t12106)) + 1)))) - 1)) + t12122)) t12105 t12106 t12107 t12108).bind fun t12123 => ((plaitingref3_Check.f kj10 t12103 (wrap64 ((wrap64 ((wrap64 (4 * (wrap64 ((wrap64 (t12105 + t12106)) + 1)))) - 1)) + t12122)) t12105 t12106 t12107 t12108).bind fun t12124 => (some (t12123 == t12124))))) else (if t12115 = 4 then ((plaitinglaw3_within.f a2 2).bind fun t12125 => ((conf_Check.f t12103 (wrap64 (10000 + t12125)) t12105 t12106 t12107 t12108).bind fun t12126 => ((plaitingref3_Check.f kj10 t12103 (wrap64 (10000 + t12125)) t12105 t12106 t12107 t12108).bind fun t12127 => (some (t12126 == t12127))))) else (if t12115 = 5 then ((some (([(-1), 65535, 65536, a2] : List Int) : List Int)).bind fun y12128 => ((plaitinglaw3_within.f a2 4).bind fun t12131 => (if 0 ≤ t12131 then (if t12131 < (y12128.length : Int) then ((conf_Check.f t12103 t12104 t12105 t12106 (rd y12128 t12131) t12108).bind fun t12133 => ((plaitingref3_Check.f kj10 t12103 t12104 t12105 t12106 (rd y12128 t12131) t12108).bind fun t12134 => (some (t12133 == t12134)))) else (none)) else (none)))) else (if t12115 = 6 then ((some (([] : List Int) : List Int)).bind fun y12135 => (if y12135.length + t12108.length < 17592186044416 then ((some (y12135 ++ t12108 : List Int)).bind fun y12138 => ((some (([0, 0] : List Int) : List Int)).bind fun y12141 => (if y12138.length + y12141.length < 17592186044416 then ((some (y12138 ++ y12141 : List Int)).bind fun y12144 => ((conf_Check.f t12103 t12104 t12105 t12106 t12107 y12144).bind fun t12147 => ((plaitingref3_Check.f kj10 t12103 t12104 t12105 t12106 t12107 y12144).bind fun t12148 => (some (t12147 == t12148))))) else (none)))) else (none))) else (if t12115 = 7 then ((some (([(-2), t12103, wrap64 (t12103 - 1), a2] : List Int) : List Int)).bind fun y12149 => ((plaitinglaw3_within.f a2 4).bind fun t12152 => (if 0 ≤ t12152 then (if t12152 < (y12149.length : Int) then ((some (([0, rd y12149 t12152] : List Int) : List Int)).bind fun y12154 => ((conf_Check.f t12103 t12104 t12105 t12106 t12107 y12154).bind fun t12157 => ((plaitingref3_Check.f kj10 t12103 t12104 t12105 t12106 t12107 y12154).bind fun t12158 => (some (t12157 == t12158))))) else (none)) else (none)))) else ((conf_Check.f t12103 t12104 t12105 t12106 t12107 t12108).bind fun t12159 => ((plaitingref3_Check.f kj10 t12103 t12104 t12105 t12106 t12107 t12108).bind fun t12160 => (some (t12159 == t12160))))))))))))) = some r := by rw [if_neg (show ¬ (false = true) by decide)] at H; exact H
        clear H
        have H := H1
        clear H1
        replace H := Option.bind_eq_some_iff.mp H
        obtain ⟨t12115, A340, H⟩ := H
        replace H : (if t12115 = 0 then ((conf_Check.f a2 t12104 t12105 t12106 t12107 t12108).bind fun t12116 => ((plaitingref3_Check.f kj10 a2 t12104 t12105 t12106 t12107 t12108).bind fun t12117 => (some (t12116 == t12117)))) else (if t12115 = 1 then ((conf_Check.f t12103 t12104 a2 t12106 t12107 t12108).bind fun t12118 => ((plaitingref3_Check.f kj10 t12103 t12104 a2 t12106 t12107 t12108).bind fun t12119 => (some (t12118 == t12119)))) else (if t12115 = 2 then ((conf_Check.f t12103 t12104 t12105 a2 t12107 t12108).bind fun t12120 => ((plaitingref3_Check.f kj10 t12103 t12104 t12105 a2 t12107 t12108).bind fun t12121 => (some (t12120 == t12121)))) else (if t12115 = 3 then ((plaitinglaw3_within.f a2 2).bind fun t12122 => ((conf_Check.f t12103 (wrap64 ((wrap64 ((wrap64 (4 * (wrap64 ((wrap64 (t12105 + t12106)) + 1)))) - 1)) + t12122)) t12105 t12106 t12107 t12108).bind fun t12123 => ((plaitingref3_Check.f kj10 t12103 (wrap64 ((wrap64 ((wrap64 (4 * (wrap64 ((wrap64 (t12105 + t12106)) + 1)))) - 1)) + t12122)) t12105 t12106 t12107 t12108).bind fun t12124 => (some (t12123 == t12124))))) else (if t12115 = 4 then ((plaitinglaw3_within.f a2 2).bind fun t12125 => ((conf_Check.f t12103 (wrap64 (10000 + t12125)) t12105 t12106 t12107 t12108).bind fun t12126 => ((plaitingref3_Check.f kj10 t12103 (wrap64 (10000 + t12125)) t12105 t12106 t12107 t12108).bind fun t12127 => (some (t12126 == t12127))))) else (if t12115 = 5 then ((some (([(-1), 65535, 65536, a2] : List Int) : List Int)).bind fun y12128 => ((plaitinglaw3_within.f a2 4).bind fun t12131 => (if 0 ≤ t12131 then (if t12131 < (y12128.length : Int) then ((conf_Check.f t12103 t12104 t12105 t12106 (rd y12128 t12131) t12108).bind fun t12133 => ((plaitingref3_Check.f kj10 t12103 t12104 t12105 t12106 (rd y12128 t12131) t12108).bind fun t12134 => (some (t12133 == t12134)))) else (none)) else (none)))) else (if t12115 = 6 then ((some (([] : List Int) : List Int)).bind fun y12135 => (if y12135.length + t12108.length < 17592186044416 then ((some (y12135 ++ t12108 : List Int)).bind fun y12138 => ((some (([0, 0] : List Int) : List Int)).bind fun y12141 => (if y12138.length + y12141.length < 17592186044416 then ((some (y12138 ++ y12141 : List Int)).bind fun y12144 => ((conf_Check.f t12103 t12104 t12105 t12106 t12107 y12144).bind fun t12147 => ((plaitingref3_Check.f kj10 t12103 t12104 t12105 t12106 t12107 y12144).bind fun t12148 => (some (t12147 == t12148))))) else (none)))) else (none))) else (if t12115 = 7 then ((some (([(-2), t12103, wrap64 (t12103 - 1), a2] : List Int) : List Int)).bind fun y12149 => ((plaitinglaw3_within.f a2 4).bind fun t12152 => (if 0 ≤ t12152 then (if t12152 < (y12149.length : Int) then ((some (([0, rd y12149 t12152] : List Int) : List Int)).bind fun y12154 => ((conf_Check.f t12103 t12104 t12105 t12106 t12107 y12154).bind fun t12157 => ((plaitingref3_Check.f kj10 t12103 t12104 t12105 t12106 t12107 y12154).bind fun t12158 => (some (t12157 == t12158))))) else (none)) else (none)))) else ((conf_Check.f t12103 t12104 t12105 t12106 t12107 t12108).bind fun t12159 => ((plaitingref3_Check.f kj10 t12103 t12104 t12105 t12106 t12107 t12108).bind fun t12160 => (some (t12159 == t12160)))))))))))) = some r := H
        have A34 := Aside0.mk A340
        clear A340
        by_cases c35 : t12115 = 0
        · rw [if_pos c35] at H
          have c35b0 : (t12115 == 0) = true := beq_iff_eq.mpr c35
          have c35b1 : (t12115 != 0) = false := bne_eq_false_iff_eq.mpr c35
          clear c35
          replace H := Option.bind_eq_some_iff.mp H
          obtain ⟨t12116, A360, H⟩ := H
          replace H : ((plaitingref3_Check.f kj10 a2 t12104 t12105 t12106 t12107 t12108).bind fun t12117 => (some (t12116 == t12117))) = some r := H
          have A36 := Aside0.mk A360
          clear A360
          replace H := Option.bind_eq_some_iff.mp H
          obtain ⟨t12117, A370, H⟩ := H
          replace H : (some (t12116 == t12117)) = some r := H
          have A37 := Aside0.mk A370
          clear A370
          obtain rfl := Option.some.inj H
          try go_wp2_with (first | ((with_reducible refine gate_callee (f := 29) rfl ?_); refine goesL_ (some 27) rfl rfl Try.func29 (by kernel_rfl) rfl #[.int .i64 a1, .int .i64 8] rfl (by (try simp only [List.map_toArray, List.map_cons, List.map_nil]); first | done | rfl | (simp only [List.length_drop, List.length_take]; rfl)) ?_; (with_reducible refine (plaitinglaw3_within.calls a1 8 t12115 _ A34.out).mono ?_); rintro e w' ⟨rfl, ⟨nd, rfl⟩⟩; refine ⟨_, rfl, ?_⟩; (try (rw [drewN_self wc]; generalize hq_ : World.drewN wc _ = wc; have n0_ : Aside0 (Kd.R (Kd.int .i64) 3 wc w.heap.size (fun _ => True) (.slice Ao19 t12108.length co19) t12108) := ⟨by rw [← hq_]; exact (by (with_reducible repeat (first | apply Kd.R_alloc | apply Kd.R_drewN | apply Kd.R_drew)); exact HO_12112005.out)⟩; have n1_ : Aside0 (wc.heap[gb12101]? = some (.cells #[.int .i64 a0_0, .int .i64 a0_1, .int .i64 a0_2, .int .i64 a0_3, .int .i64 a0_4, .slice A0_5 l0_5.length c0_5] 35 (0, 0))) := ⟨by rw [← hq_]; exact (by (with_reducible repeat (first | refine blk_drewN ?_ _ | refine blk_drew ?_ | refine blk_alloc ?_ _)); exact BK12101.out)⟩; have n2_ : Aside0 (wc.heap[gb12111]? = some (.cells #[.int .i64 t12103, .int .i64 t12104, .int .i64 t12105, .int .i64 t12106, .int .i64 t12107, .slice Ao19 t12108.length co19] 35 (0, 0))) := ⟨by rw [← hq_]; exact (by (with_reducible repeat (first | refine blk_drewN ?_ _ | refine blk_drew ?_ | refine blk_alloc ?_ _)); exact BK12111.out)⟩; have n3_ : Aside0 (Below w.heap.size w wc) := ⟨by rw [← hq_]; exact (by repeat (first | (with_reducible first | exact HB.out | apply below_alloc | apply pw_below_drewN | apply below_drew1 | refine below_set ?_ GE12101.out | refine below_set ?_ GE12111.out) | exact HB.out))⟩; clear HO_12112005 BK12101 BK12111 HB hq_; have HO_12112005 := n0_; have BK12101 := n1_; have BK12111 := n2_; have HB := n3_; clear n0_ n1_ n2_ n3_)); have hnb38 := NB12111_12101.out; have hnc38 := NB12101_12111.out; have hcz39_0 : wc.cell? ⟨gb12111, 0, none⟩ = some (.int .i64 t12103) := (blk_cell BK12111.out 0).trans rfl; have hcz39_1 : wc.cell? ⟨gb12111, 1, none⟩ = some (.int .i64 t12104) := (blk_cell BK12111.out 1).trans rfl; have hcz39_2 : wc.cell? ⟨gb12111, 2, none⟩ = some (.int .i64 t12105) := (blk_cell BK12111.out 2).trans rfl; have hcz39_3 : wc.cell? ⟨gb12111, 3, none⟩ = some (.int .i64 t12106) := (blk_cell BK12111.out 3).trans rfl; have hcz39_4 : wc.cell? ⟨gb12111, 4, none⟩ = some (.int .i64 t12107) := (blk_cell BK12111.out 4).trans rfl; have hcz39_5 : wc.cell? ⟨gb12111, 5, none⟩ = some (.slice Ao19 t12108.length co19) := (blk_cell BK12111.out 5).trans rfl; have hfz39_0 := blk_frozen BK12111.out 0; have hfz39_1 := blk_frozen BK12111.out 1; have hfz39_2 := blk_frozen BK12111.out 2; have hfz39_3 := blk_frozen BK12111.out 3; have hfz39_4 := blk_frozen BK12111.out 4; have hfz39_5 := blk_frozen BK12111.out 5))
          have n0_ : Aside0 (Kd.R (Kd.int .i64) 3 (wc.setCell ⟨gb12111, 0, none⟩ (.int .i64 a2)) w.heap.size (fun _ => True) (.slice Ao19 t12108.length co19) t12108) := ⟨by (with_reducible repeat (first | apply Kd.R_alloc | apply Kd.R_drewN | apply Kd.R_drew)); exact Kd.R_mono (Kd.R_far (p := ⟨gb12111, 0, none⟩) (Kd.R_types HO_12112005.out BK12111.out (by decide)) (fun _ hk => hk.2) (.int .i64 a2)) (fun _ hk => trivial)⟩
          have n1_ : Aside0 ((wc.setCell ⟨gb12111, 0, none⟩ (.int .i64 a2)).heap[gb12101]? = some (.cells #[.int .i64 a0_0, .int .i64 a0_1, .int .i64 a0_2, .int .i64 a0_3, .int .i64 a0_4, .slice A0_5 l0_5.length c0_5] 35 (0, 0))) := ⟨by (with_reducible repeat (first | refine blk_drewN ?_ _ | refine blk_drew ?_ | refine blk_alloc ?_ _)); refine blk_far ?_ NB12101_12111.out _; (with_reducible repeat (first | refine blk_drewN ?_ _ | refine blk_drew ?_ | refine blk_alloc ?_ _)); exact BK12101.out⟩
          have n2_ : Aside0 ((wc.setCell ⟨gb12111, 0, none⟩ (.int .i64 a2)).heap[gb12111]? = some (.cells #[.int .i64 a2, .int .i64 t12104, .int .i64 t12105, .int .i64 t12106, .int .i64 t12107, .slice Ao19 t12108.length co19] 35 (0, 0))) := ⟨by (with_reducible repeat (first | refine blk_drewN ?_ _ | refine blk_drew ?_ | refine blk_alloc ?_ _)); refine blk_put (cs := #[.int .i64 t12103, .int .i64 t12104, .int .i64 t12105, .int .i64 t12106, .int .i64 t12107, .slice Ao19 t12108.length co19]) ?_ 0 _ rfl; (with_reducible repeat (first | refine blk_drewN ?_ _ | refine blk_drew ?_ | refine blk_alloc ?_ _)); exact BK12111.out⟩
          have n3_ : Aside0 (Below w.heap.size w (wc.setCell ⟨gb12111, 0, none⟩ (.int .i64 a2))) := ⟨by repeat (first | (with_reducible first | exact HB.out | apply below_alloc | apply pw_below_drewN | apply below_drew1 | refine below_set ?_ GE12101.out | refine below_set ?_ GE12111.out) | exact HB.out)⟩
          (try clear HO_12112005)
          (try clear BK12101)
          (try clear BK12111)
          (try clear HB)
          generalize (wc.setCell ⟨gb12111, 0, none⟩ (.int .i64 a2)) = w40 at n0_ n1_ n2_ n3_ ⊢
          have HO_12112005 := n0_
          have BK12101 := n1_
          have BK12111 := n2_
          have HB := n3_
          clear n0_ n1_ n2_ n3_
          have n0_ := Aside0.mk (Kd.R_drew HO_12112005.out)
          have n1_ := Aside0.mk (blk_drew BK12101.out)
          have n2_ := Aside0.mk (blk_drew BK12111.out)
          have n3_ := Aside0.mk (below_drew1 HB.out)
          clear HO_12112005
          clear BK12101
          clear BK12111
          clear HB
          have HO_12112005 := n0_
          have BK12101 := n1_
          have BK12111 := n2_
          have HB := n3_
          clear n0_ n1_ n2_ n3_
          refine start_ (n := 6) (S := fun w' => w'.cell? ⟨gb12111, 0, none⟩ = some (.int .i64 a2) ∧ w'.cell? ⟨gb12111, 1, none⟩ = some (.int .i64 t12104) ∧ w'.cell? ⟨gb12111, 2, none⟩ = some (.int .i64 t12105) ∧ w'.cell? ⟨gb12111, 3, none⟩ = some (.int .i64 t12106) ∧ w'.cell? ⟨gb12111, 4, none⟩ = some (.int .i64 t12107) ∧ w'.cell? ⟨gb12111, 5, none⟩ = some (.slice Ao19 t12108.length co19)) (ds := []) #[false, false, false, false, false, false] (by kernel_rfl) rfl rfl ⟨(blk_cell BK12111.out 0).trans rfl, (blk_cell BK12111.out 1).trans rfl, (blk_cell BK12111.out 2).trans rfl, (blk_cell BK12111.out 3).trans rfl, (blk_cell BK12111.out 4).trans rfl, (blk_cell BK12111.out 5).trans rfl⟩ (fun hHeld => ?_)
          generalize w40.drew = w41 at HO_12112005 BK12101 BK12111 HB hHeld ⊢
          refine take_ (i := 0) (N := some 93) (v := ?_) (a' := ?_) #[true, false, false, false, false, false] rfl rfl (by kernel_rfl) (fun _ _ _ h => h) (Or.inl ⟨by rfl, ?_⟩) hHeld ?_ ?_
          rotate_left
          · rintro w' ⟨s0, s1, s2, s3, s4, s5⟩
            go_simp
            with_reducible rfl
          rotate_left
          · simp only [Act.put, List.setIfInBounds_toArray, List.set_cons_zero, List.set_cons_succ, i64_w, i32_w]
            rfl
          refine take_ (i := 2) (N := some 95) (v := ?_) (a' := ?_) #[true, false, true, false, false, false] rfl rfl (by kernel_rfl) (fun _ _ _ h => h) (Or.inl ⟨by rfl, ?_⟩) hHeld ?_ ?_
          rotate_left
          · rintro w' ⟨s0, s1, s2, s3, s4, s5⟩
            go_simp
            with_reducible rfl
          rotate_left
          · simp only [Act.put, List.setIfInBounds_toArray, List.set_cons_zero, List.set_cons_succ, i64_w, i32_w]
            rfl
          refine one_ (i := 1) (N := some 94) #[true, true, true, false, false, false] rfl rfl (by kernel_rfl) (by decide) (fun K hK => ?_)
          refine goes_ Try.func27 (by kernel_rfl) rfl #[.agg #[.int .i64 a2, .int .i64 t12104, .int .i64 t12105, .int .i64 t12106, .int .i64 t12107, .slice Ao19 t12108.length co19]] (by rfl) rfl rfl (by (try simp only [List.map_toArray, List.map_cons, List.map_nil]); first | done | rfl | (simp only [List.length_drop, List.length_take]; rfl)) ?_
          with_reducible refine (conf_Check.calls a2 t12104 t12105 t12106 t12107 _ _ t12108 t12116 _ ?side1 ?side2 A36.out).mono ?_
          (case side1 => repeat (first | exact (Kd.R_reads' HO_12112005.out).2.2 | (with_reducible refine Kd.C_alloc ?_ _) | (with_reducible refine Kd.C_drewN ?_ _) | (with_reducible refine Kd.C_drew ?_)))
          (case side2 => exact (Kd.R_reads' HO_12112005.out).2.1)
          rintro e w42 ⟨rfl, hb⟩
          refine ⟨_, rfl, ?_⟩
          have n0_ := Aside0.mk (Kd.R_below (by (with_reducible repeat (first | apply Kd.R_alloc | apply Kd.R_drewN | apply Kd.R_drew)); exact HO_12112005.out) hb)
          have n1_ := Aside0.mk (blk_below (g := gb12101) (o := .cells #[.int .i64 a0_0, .int .i64 a0_1, .int .i64 a0_2, .int .i64 a0_3, .int .i64 a0_4, .slice A0_5 l0_5.length c0_5] 35 (0, 0)) (by (with_reducible repeat (first | refine blk_drewN ?_ _ | refine blk_drew ?_ | refine blk_alloc ?_ _)); exact BK12101.out) hb)
          have n2_ := Aside0.mk (blk_below (g := gb12111) (o := .cells #[.int .i64 a2, .int .i64 t12104, .int .i64 t12105, .int .i64 t12106, .int .i64 t12107, .slice Ao19 t12108.length co19] 35 (0, 0)) (by (with_reducible repeat (first | refine blk_drewN ?_ _ | refine blk_drew ?_ | refine blk_alloc ?_ _)); exact BK12111.out) hb)
          have n3_ := Aside0.mk (below_step (by repeat (first | (with_reducible first | exact HB.out | apply below_alloc | apply pw_below_drewN | apply below_drew1 | refine below_set ?_ GE12101.out | refine below_set ?_ GE12111.out) | exact HB.out)) hb)
          clear HO_12112005
          clear BK12101
          clear BK12111
          clear HB
          have HO_12112005 := n0_
          have BK12101 := n1_
          have BK12111 := n2_
          have HB := n3_
          clear n0_ n1_ n2_ n3_
          (try clear hb)
          (try clear hb2)
          (try clear hk)
          (try clear hi)
          refine hK.out _ _ ⟨(blk_cell BK12111.out 0).trans rfl, (blk_cell BK12111.out 1).trans rfl, (blk_cell BK12111.out 2).trans rfl, (blk_cell BK12111.out 3).trans rfl, (blk_cell BK12111.out 4).trans rfl, (blk_cell BK12111.out 5).trans rfl⟩ (fun hHeld => ?_)
          clear hK K
          refine norm_ (a' := ?_) ?_ ?_
          rotate_left
          · show Act.put _ (some 94) _ = _
            simp only [Act.put, List.setIfInBounds_toArray, List.set_cons_zero, List.set_cons_succ, i64_w, i32_w]
            rfl
          refine one_ (i := 3) (N := some 96) #[true, true, true, true, false, false] rfl rfl (by kernel_rfl) (by decide) (fun K hK => ?_)
          refine goes_ Try.func28 (by kernel_rfl) rfl #[.agg #[.int .i64 a2, .int .i64 t12104, .int .i64 t12105, .int .i64 t12106, .int .i64 t12107, .slice Ao19 t12108.length co19]] (by rfl) rfl rfl (by (try simp only [List.map_toArray, List.map_cons, List.map_nil]); first | done | rfl | (simp only [List.length_drop, List.length_take]; rfl)) ?_
          with_reducible refine (plaitingref3_Check.calls kj10 a2 t12104 t12105 t12106 t12107 _ _ t12108 t12117 _ ?side1 ?side2 A37.out).mono ?_
          (case side1 => repeat (first | exact (Kd.R_reads' HO_12112005.out).2.2 | (with_reducible refine Kd.C_alloc ?_ _) | (with_reducible refine Kd.C_drewN ?_ _) | (with_reducible refine Kd.C_drew ?_)))
          (case side2 => exact (Kd.R_reads' HO_12112005.out).2.1)
          rintro e w43 ⟨rfl, hb⟩
          refine ⟨_, rfl, ?_⟩
          have n0_ := Aside0.mk (Kd.R_below (by (with_reducible repeat (first | apply Kd.R_alloc | apply Kd.R_drewN | apply Kd.R_drew)); exact HO_12112005.out) hb)
          have n1_ := Aside0.mk (blk_below (g := gb12101) (o := .cells #[.int .i64 a0_0, .int .i64 a0_1, .int .i64 a0_2, .int .i64 a0_3, .int .i64 a0_4, .slice A0_5 l0_5.length c0_5] 35 (0, 0)) (by (with_reducible repeat (first | refine blk_drewN ?_ _ | refine blk_drew ?_ | refine blk_alloc ?_ _)); exact BK12101.out) hb)
          have n2_ := Aside0.mk (blk_below (g := gb12111) (o := .cells #[.int .i64 a2, .int .i64 t12104, .int .i64 t12105, .int .i64 t12106, .int .i64 t12107, .slice Ao19 t12108.length co19] 35 (0, 0)) (by (with_reducible repeat (first | refine blk_drewN ?_ _ | refine blk_drew ?_ | refine blk_alloc ?_ _)); exact BK12111.out) hb)
          have n3_ := Aside0.mk (below_step (by repeat (first | (with_reducible first | exact HB.out | apply below_alloc | apply pw_below_drewN | apply below_drew1 | refine below_set ?_ GE12101.out | refine below_set ?_ GE12111.out) | exact HB.out)) hb)
          clear HO_12112005
          clear BK12101
          clear BK12111
          clear HB
          have HO_12112005 := n0_
          have BK12101 := n1_
          have BK12111 := n2_
          have HB := n3_
          clear n0_ n1_ n2_ n3_
          (try clear hb)
          (try clear hb2)
          (try clear hk)
          (try clear hi)
          refine hK.out _ _ ⟨(blk_cell BK12111.out 0).trans rfl, (blk_cell BK12111.out 1).trans rfl, (blk_cell BK12111.out 2).trans rfl, (blk_cell BK12111.out 3).trans rfl, (blk_cell BK12111.out 4).trans rfl, (blk_cell BK12111.out 5).trans rfl⟩ (fun hHeld => ?_)
          clear hK K
          refine norm_ (a' := ?_) ?_ ?_
          rotate_left
          · show Act.put _ (some 96) _ = _
            simp only [Act.put, List.setIfInBounds_toArray, List.set_cons_zero, List.set_cons_succ, i64_w, i32_w]
            rfl
          refine pure_ (i := 4) (N := some 97) (v := ?_) (a' := ?_) #[true, true, true, true, true, false] rfl rfl (by kernel_rfl) (fun _ _ _ h => h) (Or.inl ⟨by rfl, ?_⟩) ?_ ?_
          rotate_left
          · intro w'
            go_simp
            with_reducible rfl
          rotate_left
          · simp only [Act.put, List.setIfInBounds_toArray, List.set_cons_zero, List.set_cons_succ, i64_w, i32_w]
            rfl
          refine pure_ (i := 5) (N := some 6) (v := ?_) (a' := ?_) #[true, true, true, true, true, true] rfl rfl (by kernel_rfl) (fun _ _ _ h => h) (Or.inl ⟨by rfl, ?_⟩) ?_ ?_
          rotate_left
          · intro w'
            go_simp
            with_reducible rfl
          rotate_left
          · simp only [Act.put, List.setIfInBounds_toArray, List.set_cons_zero, List.set_cons_succ, i64_w, i32_w]
            rfl
          refine done_ (by kernel_rfl) ?_
          try go_wp2
          go_ret
          exact ⟨by first | rfl | (simp [errW_none, errW_some] <;> rfl) | (simp [*, errW_none, errW_some] <;> rfl), by repeat (first | (with_reducible first | exact HB.out | apply below_alloc | apply pw_below_drewN | apply below_drew1 | refine below_set ?_ GE12101.out | refine below_set ?_ GE12111.out) | exact HB.out)⟩
        rw [if_neg c35] at H
        have c35b0 : (t12115 == 0) = false := beq_eq_false_iff_ne.mpr c35
        have c35b1 : (t12115 != 0) = true := bne_iff_ne.mpr c35
        by_cases c44 : t12115 = 1
        · rw [if_pos c44] at H
          have c44b0 : (t12115 == 1) = true := beq_iff_eq.mpr c44
          have c44b1 : (t12115 != 1) = false := bne_eq_false_iff_eq.mpr c44
          clear c44
          replace H := Option.bind_eq_some_iff.mp H
          obtain ⟨t12118, A450, H⟩ := H
          replace H : ((plaitingref3_Check.f kj10 t12103 t12104 a2 t12106 t12107 t12108).bind fun t12119 => (some (t12118 == t12119))) = some r := H
          have A45 := Aside0.mk A450
          clear A450
          replace H := Option.bind_eq_some_iff.mp H
          obtain ⟨t12119, A460, H⟩ := H
          replace H : (some (t12118 == t12119)) = some r := H
          have A46 := Aside0.mk A460
          clear A460
          obtain rfl := Option.some.inj H
          try go_wp2_with (first | ((with_reducible refine gate_callee (f := 29) rfl ?_); refine goesL_ (some 27) rfl rfl Try.func29 (by kernel_rfl) rfl #[.int .i64 a1, .int .i64 8] rfl (by (try simp only [List.map_toArray, List.map_cons, List.map_nil]); first | done | rfl | (simp only [List.length_drop, List.length_take]; rfl)) ?_; (with_reducible refine (plaitinglaw3_within.calls a1 8 t12115 _ A34.out).mono ?_); rintro e w' ⟨rfl, ⟨nd, rfl⟩⟩; refine ⟨_, rfl, ?_⟩; (try (rw [drewN_self wc]; generalize hq_ : World.drewN wc _ = wc; have n0_ : Aside0 (Kd.R (Kd.int .i64) 3 wc w.heap.size (fun _ => True) (.slice Ao19 t12108.length co19) t12108) := ⟨by rw [← hq_]; exact (by (with_reducible repeat (first | apply Kd.R_alloc | apply Kd.R_drewN | apply Kd.R_drew)); exact HO_12112005.out)⟩; have n1_ : Aside0 (wc.heap[gb12101]? = some (.cells #[.int .i64 a0_0, .int .i64 a0_1, .int .i64 a0_2, .int .i64 a0_3, .int .i64 a0_4, .slice A0_5 l0_5.length c0_5] 35 (0, 0))) := ⟨by rw [← hq_]; exact (by (with_reducible repeat (first | refine blk_drewN ?_ _ | refine blk_drew ?_ | refine blk_alloc ?_ _)); exact BK12101.out)⟩; have n2_ : Aside0 (wc.heap[gb12111]? = some (.cells #[.int .i64 t12103, .int .i64 t12104, .int .i64 t12105, .int .i64 t12106, .int .i64 t12107, .slice Ao19 t12108.length co19] 35 (0, 0))) := ⟨by rw [← hq_]; exact (by (with_reducible repeat (first | refine blk_drewN ?_ _ | refine blk_drew ?_ | refine blk_alloc ?_ _)); exact BK12111.out)⟩; have n3_ : Aside0 (Below w.heap.size w wc) := ⟨by rw [← hq_]; exact (by repeat (first | (with_reducible first | exact HB.out | apply below_alloc | apply pw_below_drewN | apply below_drew1 | refine below_set ?_ GE12101.out | refine below_set ?_ GE12111.out) | exact HB.out))⟩; clear HO_12112005 BK12101 BK12111 HB hq_; have HO_12112005 := n0_; have BK12101 := n1_; have BK12111 := n2_; have HB := n3_; clear n0_ n1_ n2_ n3_)); have hnb47 := NB12111_12101.out; have hnc47 := NB12101_12111.out; have hcz48_0 : wc.cell? ⟨gb12111, 0, none⟩ = some (.int .i64 t12103) := (blk_cell BK12111.out 0).trans rfl; have hcz48_1 : wc.cell? ⟨gb12111, 1, none⟩ = some (.int .i64 t12104) := (blk_cell BK12111.out 1).trans rfl; have hcz48_2 : wc.cell? ⟨gb12111, 2, none⟩ = some (.int .i64 t12105) := (blk_cell BK12111.out 2).trans rfl; have hcz48_3 : wc.cell? ⟨gb12111, 3, none⟩ = some (.int .i64 t12106) := (blk_cell BK12111.out 3).trans rfl; have hcz48_4 : wc.cell? ⟨gb12111, 4, none⟩ = some (.int .i64 t12107) := (blk_cell BK12111.out 4).trans rfl; have hcz48_5 : wc.cell? ⟨gb12111, 5, none⟩ = some (.slice Ao19 t12108.length co19) := (blk_cell BK12111.out 5).trans rfl; have hfz48_0 := blk_frozen BK12111.out 0; have hfz48_1 := blk_frozen BK12111.out 1; have hfz48_2 := blk_frozen BK12111.out 2; have hfz48_3 := blk_frozen BK12111.out 3; have hfz48_4 := blk_frozen BK12111.out 4; have hfz48_5 := blk_frozen BK12111.out 5))
          have n0_ : Aside0 (Kd.R (Kd.int .i64) 3 (wc.setCell ⟨gb12111, 2, none⟩ (.int .i64 a2)) w.heap.size (fun _ => True) (.slice Ao19 t12108.length co19) t12108) := ⟨by (with_reducible repeat (first | apply Kd.R_alloc | apply Kd.R_drewN | apply Kd.R_drew)); exact Kd.R_mono (Kd.R_far (p := ⟨gb12111, 2, none⟩) (Kd.R_types HO_12112005.out BK12111.out (by decide)) (fun _ hk => hk.2) (.int .i64 a2)) (fun _ hk => trivial)⟩
          have n1_ : Aside0 ((wc.setCell ⟨gb12111, 2, none⟩ (.int .i64 a2)).heap[gb12101]? = some (.cells #[.int .i64 a0_0, .int .i64 a0_1, .int .i64 a0_2, .int .i64 a0_3, .int .i64 a0_4, .slice A0_5 l0_5.length c0_5] 35 (0, 0))) := ⟨by (with_reducible repeat (first | refine blk_drewN ?_ _ | refine blk_drew ?_ | refine blk_alloc ?_ _)); refine blk_far ?_ NB12101_12111.out _; (with_reducible repeat (first | refine blk_drewN ?_ _ | refine blk_drew ?_ | refine blk_alloc ?_ _)); exact BK12101.out⟩
          have n2_ : Aside0 ((wc.setCell ⟨gb12111, 2, none⟩ (.int .i64 a2)).heap[gb12111]? = some (.cells #[.int .i64 t12103, .int .i64 t12104, .int .i64 a2, .int .i64 t12106, .int .i64 t12107, .slice Ao19 t12108.length co19] 35 (0, 0))) := ⟨by (with_reducible repeat (first | refine blk_drewN ?_ _ | refine blk_drew ?_ | refine blk_alloc ?_ _)); refine blk_put (cs := #[.int .i64 t12103, .int .i64 t12104, .int .i64 t12105, .int .i64 t12106, .int .i64 t12107, .slice Ao19 t12108.length co19]) ?_ 2 _ rfl; (with_reducible repeat (first | refine blk_drewN ?_ _ | refine blk_drew ?_ | refine blk_alloc ?_ _)); exact BK12111.out⟩
          have n3_ : Aside0 (Below w.heap.size w (wc.setCell ⟨gb12111, 2, none⟩ (.int .i64 a2))) := ⟨by repeat (first | (with_reducible first | exact HB.out | apply below_alloc | apply pw_below_drewN | apply below_drew1 | refine below_set ?_ GE12101.out | refine below_set ?_ GE12111.out) | exact HB.out)⟩
          (try clear HO_12112005)
          (try clear BK12101)
          (try clear BK12111)
          (try clear HB)
          generalize (wc.setCell ⟨gb12111, 2, none⟩ (.int .i64 a2)) = w49 at n0_ n1_ n2_ n3_ ⊢
          have HO_12112005 := n0_
          have BK12101 := n1_
          have BK12111 := n2_
          have HB := n3_
          clear n0_ n1_ n2_ n3_
          have n0_ := Aside0.mk (Kd.R_drew HO_12112005.out)
          have n1_ := Aside0.mk (blk_drew BK12101.out)
          have n2_ := Aside0.mk (blk_drew BK12111.out)
          have n3_ := Aside0.mk (below_drew1 HB.out)
          clear HO_12112005
          clear BK12101
          clear BK12111
          clear HB
          have HO_12112005 := n0_
          have BK12101 := n1_
          have BK12111 := n2_
          have HB := n3_
          clear n0_ n1_ n2_ n3_
          refine start_ (n := 6) (S := fun w' => w'.cell? ⟨gb12111, 0, none⟩ = some (.int .i64 t12103) ∧ w'.cell? ⟨gb12111, 1, none⟩ = some (.int .i64 t12104) ∧ w'.cell? ⟨gb12111, 2, none⟩ = some (.int .i64 a2) ∧ w'.cell? ⟨gb12111, 3, none⟩ = some (.int .i64 t12106) ∧ w'.cell? ⟨gb12111, 4, none⟩ = some (.int .i64 t12107) ∧ w'.cell? ⟨gb12111, 5, none⟩ = some (.slice Ao19 t12108.length co19)) (ds := []) #[false, false, false, false, false, false] (by kernel_rfl) rfl rfl ⟨(blk_cell BK12111.out 0).trans rfl, (blk_cell BK12111.out 1).trans rfl, (blk_cell BK12111.out 2).trans rfl, (blk_cell BK12111.out 3).trans rfl, (blk_cell BK12111.out 4).trans rfl, (blk_cell BK12111.out 5).trans rfl⟩ (fun hHeld => ?_)
          generalize w49.drew = w50 at HO_12112005 BK12101 BK12111 HB hHeld ⊢
          refine take_ (i := 0) (N := some 93) (v := ?_) (a' := ?_) #[true, false, false, false, false, false] rfl rfl (by kernel_rfl) (fun _ _ _ h => h) (Or.inl ⟨by rfl, ?_⟩) hHeld ?_ ?_
          rotate_left
          · rintro w' ⟨s0, s1, s2, s3, s4, s5⟩
            go_simp
            with_reducible rfl
          rotate_left
          · simp only [Act.put, List.setIfInBounds_toArray, List.set_cons_zero, List.set_cons_succ, i64_w, i32_w]
            rfl
          refine take_ (i := 2) (N := some 95) (v := ?_) (a' := ?_) #[true, false, true, false, false, false] rfl rfl (by kernel_rfl) (fun _ _ _ h => h) (Or.inl ⟨by rfl, ?_⟩) hHeld ?_ ?_
          rotate_left
          · rintro w' ⟨s0, s1, s2, s3, s4, s5⟩
            go_simp
            with_reducible rfl
          rotate_left
          · simp only [Act.put, List.setIfInBounds_toArray, List.set_cons_zero, List.set_cons_succ, i64_w, i32_w]
            rfl
          refine one_ (i := 1) (N := some 94) #[true, true, true, false, false, false] rfl rfl (by kernel_rfl) (by decide) (fun K hK => ?_)
          refine goes_ Try.func27 (by kernel_rfl) rfl #[.agg #[.int .i64 t12103, .int .i64 t12104, .int .i64 a2, .int .i64 t12106, .int .i64 t12107, .slice Ao19 t12108.length co19]] (by rfl) rfl rfl (by (try simp only [List.map_toArray, List.map_cons, List.map_nil]); first | done | rfl | (simp only [List.length_drop, List.length_take]; rfl)) ?_
          with_reducible refine (conf_Check.calls t12103 t12104 a2 t12106 t12107 _ _ t12108 t12118 _ ?side1 ?side2 A45.out).mono ?_
          (case side1 => repeat (first | exact (Kd.R_reads' HO_12112005.out).2.2 | (with_reducible refine Kd.C_alloc ?_ _) | (with_reducible refine Kd.C_drewN ?_ _) | (with_reducible refine Kd.C_drew ?_)))
          (case side2 => exact (Kd.R_reads' HO_12112005.out).2.1)
          rintro e w51 ⟨rfl, hb⟩
          refine ⟨_, rfl, ?_⟩
          have n0_ := Aside0.mk (Kd.R_below (by (with_reducible repeat (first | apply Kd.R_alloc | apply Kd.R_drewN | apply Kd.R_drew)); exact HO_12112005.out) hb)
          have n1_ := Aside0.mk (blk_below (g := gb12101) (o := .cells #[.int .i64 a0_0, .int .i64 a0_1, .int .i64 a0_2, .int .i64 a0_3, .int .i64 a0_4, .slice A0_5 l0_5.length c0_5] 35 (0, 0)) (by (with_reducible repeat (first | refine blk_drewN ?_ _ | refine blk_drew ?_ | refine blk_alloc ?_ _)); exact BK12101.out) hb)
          have n2_ := Aside0.mk (blk_below (g := gb12111) (o := .cells #[.int .i64 t12103, .int .i64 t12104, .int .i64 a2, .int .i64 t12106, .int .i64 t12107, .slice Ao19 t12108.length co19] 35 (0, 0)) (by (with_reducible repeat (first | refine blk_drewN ?_ _ | refine blk_drew ?_ | refine blk_alloc ?_ _)); exact BK12111.out) hb)
          have n3_ := Aside0.mk (below_step (by repeat (first | (with_reducible first | exact HB.out | apply below_alloc | apply pw_below_drewN | apply below_drew1 | refine below_set ?_ GE12101.out | refine below_set ?_ GE12111.out) | exact HB.out)) hb)
          clear HO_12112005
          clear BK12101
          clear BK12111
          clear HB
          have HO_12112005 := n0_
          have BK12101 := n1_
          have BK12111 := n2_
          have HB := n3_
          clear n0_ n1_ n2_ n3_
          (try clear hb)
          (try clear hb2)
          (try clear hk)
          (try clear hi)
          refine hK.out _ _ ⟨(blk_cell BK12111.out 0).trans rfl, (blk_cell BK12111.out 1).trans rfl, (blk_cell BK12111.out 2).trans rfl, (blk_cell BK12111.out 3).trans rfl, (blk_cell BK12111.out 4).trans rfl, (blk_cell BK12111.out 5).trans rfl⟩ (fun hHeld => ?_)
          clear hK K
          refine norm_ (a' := ?_) ?_ ?_
          rotate_left
          · show Act.put _ (some 94) _ = _
            simp only [Act.put, List.setIfInBounds_toArray, List.set_cons_zero, List.set_cons_succ, i64_w, i32_w]
            rfl
          refine one_ (i := 3) (N := some 96) #[true, true, true, true, false, false] rfl rfl (by kernel_rfl) (by decide) (fun K hK => ?_)
          refine goes_ Try.func28 (by kernel_rfl) rfl #[.agg #[.int .i64 t12103, .int .i64 t12104, .int .i64 a2, .int .i64 t12106, .int .i64 t12107, .slice Ao19 t12108.length co19]] (by rfl) rfl rfl (by (try simp only [List.map_toArray, List.map_cons, List.map_nil]); first | done | rfl | (simp only [List.length_drop, List.length_take]; rfl)) ?_
          with_reducible refine (plaitingref3_Check.calls kj10 t12103 t12104 a2 t12106 t12107 _ _ t12108 t12119 _ ?side1 ?side2 A46.out).mono ?_
          (case side1 => repeat (first | exact (Kd.R_reads' HO_12112005.out).2.2 | (with_reducible refine Kd.C_alloc ?_ _) | (with_reducible refine Kd.C_drewN ?_ _) | (with_reducible refine Kd.C_drew ?_)))
          (case side2 => exact (Kd.R_reads' HO_12112005.out).2.1)
          rintro e w52 ⟨rfl, hb⟩
          refine ⟨_, rfl, ?_⟩
          have n0_ := Aside0.mk (Kd.R_below (by (with_reducible repeat (first | apply Kd.R_alloc | apply Kd.R_drewN | apply Kd.R_drew)); exact HO_12112005.out) hb)
          have n1_ := Aside0.mk (blk_below (g := gb12101) (o := .cells #[.int .i64 a0_0, .int .i64 a0_1, .int .i64 a0_2, .int .i64 a0_3, .int .i64 a0_4, .slice A0_5 l0_5.length c0_5] 35 (0, 0)) (by (with_reducible repeat (first | refine blk_drewN ?_ _ | refine blk_drew ?_ | refine blk_alloc ?_ _)); exact BK12101.out) hb)
          have n2_ := Aside0.mk (blk_below (g := gb12111) (o := .cells #[.int .i64 t12103, .int .i64 t12104, .int .i64 a2, .int .i64 t12106, .int .i64 t12107, .slice Ao19 t12108.length co19] 35 (0, 0)) (by (with_reducible repeat (first | refine blk_drewN ?_ _ | refine blk_drew ?_ | refine blk_alloc ?_ _)); exact BK12111.out) hb)
          have n3_ := Aside0.mk (below_step (by repeat (first | (with_reducible first | exact HB.out | apply below_alloc | apply pw_below_drewN | apply below_drew1 | refine below_set ?_ GE12101.out | refine below_set ?_ GE12111.out) | exact HB.out)) hb)
          clear HO_12112005
          clear BK12101
          clear BK12111
          clear HB
          have HO_12112005 := n0_
          have BK12101 := n1_
          have BK12111 := n2_
          have HB := n3_
          clear n0_ n1_ n2_ n3_
          (try clear hb)
          (try clear hb2)
          (try clear hk)
          (try clear hi)
          refine hK.out _ _ ⟨(blk_cell BK12111.out 0).trans rfl, (blk_cell BK12111.out 1).trans rfl, (blk_cell BK12111.out 2).trans rfl, (blk_cell BK12111.out 3).trans rfl, (blk_cell BK12111.out 4).trans rfl, (blk_cell BK12111.out 5).trans rfl⟩ (fun hHeld => ?_)
          clear hK K
          refine norm_ (a' := ?_) ?_ ?_
          rotate_left
          · show Act.put _ (some 96) _ = _
            simp only [Act.put, List.setIfInBounds_toArray, List.set_cons_zero, List.set_cons_succ, i64_w, i32_w]
            rfl
          refine pure_ (i := 4) (N := some 97) (v := ?_) (a' := ?_) #[true, true, true, true, true, false] rfl rfl (by kernel_rfl) (fun _ _ _ h => h) (Or.inl ⟨by rfl, ?_⟩) ?_ ?_
          rotate_left
          · intro w'
            go_simp
            with_reducible rfl
          rotate_left
          · simp only [Act.put, List.setIfInBounds_toArray, List.set_cons_zero, List.set_cons_succ, i64_w, i32_w]
            rfl
          refine pure_ (i := 5) (N := some 6) (v := ?_) (a' := ?_) #[true, true, true, true, true, true] rfl rfl (by kernel_rfl) (fun _ _ _ h => h) (Or.inl ⟨by rfl, ?_⟩) ?_ ?_
          rotate_left
          · intro w'
            go_simp
            with_reducible rfl
          rotate_left
          · simp only [Act.put, List.setIfInBounds_toArray, List.set_cons_zero, List.set_cons_succ, i64_w, i32_w]
            rfl
          refine done_ (by kernel_rfl) ?_
          try go_wp2
          go_ret
          exact ⟨by first | rfl | (simp [errW_none, errW_some] <;> rfl) | (simp [*, errW_none, errW_some] <;> rfl), by repeat (first | (with_reducible first | exact HB.out | apply below_alloc | apply pw_below_drewN | apply below_drew1 | refine below_set ?_ GE12101.out | refine below_set ?_ GE12111.out) | exact HB.out)⟩
        rw [if_neg c44] at H
        have c44b0 : (t12115 == 1) = false := beq_eq_false_iff_ne.mpr c44
        have c44b1 : (t12115 != 1) = true := bne_iff_ne.mpr c44
        by_cases c53 : t12115 = 2
        · rw [if_pos c53] at H
          have c53b0 : (t12115 == 2) = true := beq_iff_eq.mpr c53
          have c53b1 : (t12115 != 2) = false := bne_eq_false_iff_eq.mpr c53
          clear c53
          replace H := Option.bind_eq_some_iff.mp H
          obtain ⟨t12120, A540, H⟩ := H
          replace H : ((plaitingref3_Check.f kj10 t12103 t12104 t12105 a2 t12107 t12108).bind fun t12121 => (some (t12120 == t12121))) = some r := H
          have A54 := Aside0.mk A540
          clear A540
          replace H := Option.bind_eq_some_iff.mp H
          obtain ⟨t12121, A550, H⟩ := H
          replace H : (some (t12120 == t12121)) = some r := H
          have A55 := Aside0.mk A550
          clear A550
          obtain rfl := Option.some.inj H
          try go_wp2_with (first | ((with_reducible refine gate_callee (f := 29) rfl ?_); refine goesL_ (some 27) rfl rfl Try.func29 (by kernel_rfl) rfl #[.int .i64 a1, .int .i64 8] rfl (by (try simp only [List.map_toArray, List.map_cons, List.map_nil]); first | done | rfl | (simp only [List.length_drop, List.length_take]; rfl)) ?_; (with_reducible refine (plaitinglaw3_within.calls a1 8 t12115 _ A34.out).mono ?_); rintro e w' ⟨rfl, ⟨nd, rfl⟩⟩; refine ⟨_, rfl, ?_⟩; (try (rw [drewN_self wc]; generalize hq_ : World.drewN wc _ = wc; have n0_ : Aside0 (Kd.R (Kd.int .i64) 3 wc w.heap.size (fun _ => True) (.slice Ao19 t12108.length co19) t12108) := ⟨by rw [← hq_]; exact (by (with_reducible repeat (first | apply Kd.R_alloc | apply Kd.R_drewN | apply Kd.R_drew)); exact HO_12112005.out)⟩; have n1_ : Aside0 (wc.heap[gb12101]? = some (.cells #[.int .i64 a0_0, .int .i64 a0_1, .int .i64 a0_2, .int .i64 a0_3, .int .i64 a0_4, .slice A0_5 l0_5.length c0_5] 35 (0, 0))) := ⟨by rw [← hq_]; exact (by (with_reducible repeat (first | refine blk_drewN ?_ _ | refine blk_drew ?_ | refine blk_alloc ?_ _)); exact BK12101.out)⟩; have n2_ : Aside0 (wc.heap[gb12111]? = some (.cells #[.int .i64 t12103, .int .i64 t12104, .int .i64 t12105, .int .i64 t12106, .int .i64 t12107, .slice Ao19 t12108.length co19] 35 (0, 0))) := ⟨by rw [← hq_]; exact (by (with_reducible repeat (first | refine blk_drewN ?_ _ | refine blk_drew ?_ | refine blk_alloc ?_ _)); exact BK12111.out)⟩; have n3_ : Aside0 (Below w.heap.size w wc) := ⟨by rw [← hq_]; exact (by repeat (first | (with_reducible first | exact HB.out | apply below_alloc | apply pw_below_drewN | apply below_drew1 | refine below_set ?_ GE12101.out | refine below_set ?_ GE12111.out) | exact HB.out))⟩; clear HO_12112005 BK12101 BK12111 HB hq_; have HO_12112005 := n0_; have BK12101 := n1_; have BK12111 := n2_; have HB := n3_; clear n0_ n1_ n2_ n3_)); have hnb56 := NB12111_12101.out; have hnc56 := NB12101_12111.out; have hcz57_0 : wc.cell? ⟨gb12111, 0, none⟩ = some (.int .i64 t12103) := (blk_cell BK12111.out 0).trans rfl; have hcz57_1 : wc.cell? ⟨gb12111, 1, none⟩ = some (.int .i64 t12104) := (blk_cell BK12111.out 1).trans rfl; have hcz57_2 : wc.cell? ⟨gb12111, 2, none⟩ = some (.int .i64 t12105) := (blk_cell BK12111.out 2).trans rfl; have hcz57_3 : wc.cell? ⟨gb12111, 3, none⟩ = some (.int .i64 t12106) := (blk_cell BK12111.out 3).trans rfl; have hcz57_4 : wc.cell? ⟨gb12111, 4, none⟩ = some (.int .i64 t12107) := (blk_cell BK12111.out 4).trans rfl; have hcz57_5 : wc.cell? ⟨gb12111, 5, none⟩ = some (.slice Ao19 t12108.length co19) := (blk_cell BK12111.out 5).trans rfl; have hfz57_0 := blk_frozen BK12111.out 0; have hfz57_1 := blk_frozen BK12111.out 1; have hfz57_2 := blk_frozen BK12111.out 2; have hfz57_3 := blk_frozen BK12111.out 3; have hfz57_4 := blk_frozen BK12111.out 4; have hfz57_5 := blk_frozen BK12111.out 5))
          have n0_ : Aside0 (Kd.R (Kd.int .i64) 3 (wc.setCell ⟨gb12111, 3, none⟩ (.int .i64 a2)) w.heap.size (fun _ => True) (.slice Ao19 t12108.length co19) t12108) := ⟨by (with_reducible repeat (first | apply Kd.R_alloc | apply Kd.R_drewN | apply Kd.R_drew)); exact Kd.R_mono (Kd.R_far (p := ⟨gb12111, 3, none⟩) (Kd.R_types HO_12112005.out BK12111.out (by decide)) (fun _ hk => hk.2) (.int .i64 a2)) (fun _ hk => trivial)⟩
          have n1_ : Aside0 ((wc.setCell ⟨gb12111, 3, none⟩ (.int .i64 a2)).heap[gb12101]? = some (.cells #[.int .i64 a0_0, .int .i64 a0_1, .int .i64 a0_2, .int .i64 a0_3, .int .i64 a0_4, .slice A0_5 l0_5.length c0_5] 35 (0, 0))) := ⟨by (with_reducible repeat (first | refine blk_drewN ?_ _ | refine blk_drew ?_ | refine blk_alloc ?_ _)); refine blk_far ?_ NB12101_12111.out _; (with_reducible repeat (first | refine blk_drewN ?_ _ | refine blk_drew ?_ | refine blk_alloc ?_ _)); exact BK12101.out⟩
          have n2_ : Aside0 ((wc.setCell ⟨gb12111, 3, none⟩ (.int .i64 a2)).heap[gb12111]? = some (.cells #[.int .i64 t12103, .int .i64 t12104, .int .i64 t12105, .int .i64 a2, .int .i64 t12107, .slice Ao19 t12108.length co19] 35 (0, 0))) := ⟨by (with_reducible repeat (first | refine blk_drewN ?_ _ | refine blk_drew ?_ | refine blk_alloc ?_ _)); refine blk_put (cs := #[.int .i64 t12103, .int .i64 t12104, .int .i64 t12105, .int .i64 t12106, .int .i64 t12107, .slice Ao19 t12108.length co19]) ?_ 3 _ rfl; (with_reducible repeat (first | refine blk_drewN ?_ _ | refine blk_drew ?_ | refine blk_alloc ?_ _)); exact BK12111.out⟩
          have n3_ : Aside0 (Below w.heap.size w (wc.setCell ⟨gb12111, 3, none⟩ (.int .i64 a2))) := ⟨by repeat (first | (with_reducible first | exact HB.out | apply below_alloc | apply pw_below_drewN | apply below_drew1 | refine below_set ?_ GE12101.out | refine below_set ?_ GE12111.out) | exact HB.out)⟩
          (try clear HO_12112005)
          (try clear BK12101)
          (try clear BK12111)
          (try clear HB)
          generalize (wc.setCell ⟨gb12111, 3, none⟩ (.int .i64 a2)) = w58 at n0_ n1_ n2_ n3_ ⊢
          have HO_12112005 := n0_
          have BK12101 := n1_
          have BK12111 := n2_
          have HB := n3_
          clear n0_ n1_ n2_ n3_
          have n0_ := Aside0.mk (Kd.R_drew HO_12112005.out)
          have n1_ := Aside0.mk (blk_drew BK12101.out)
          have n2_ := Aside0.mk (blk_drew BK12111.out)
          have n3_ := Aside0.mk (below_drew1 HB.out)
          clear HO_12112005
          clear BK12101
          clear BK12111
          clear HB
          have HO_12112005 := n0_
          have BK12101 := n1_
          have BK12111 := n2_
          have HB := n3_
          clear n0_ n1_ n2_ n3_
          refine start_ (n := 6) (S := fun w' => w'.cell? ⟨gb12111, 0, none⟩ = some (.int .i64 t12103) ∧ w'.cell? ⟨gb12111, 1, none⟩ = some (.int .i64 t12104) ∧ w'.cell? ⟨gb12111, 2, none⟩ = some (.int .i64 t12105) ∧ w'.cell? ⟨gb12111, 3, none⟩ = some (.int .i64 a2) ∧ w'.cell? ⟨gb12111, 4, none⟩ = some (.int .i64 t12107) ∧ w'.cell? ⟨gb12111, 5, none⟩ = some (.slice Ao19 t12108.length co19)) (ds := []) #[false, false, false, false, false, false] (by kernel_rfl) rfl rfl ⟨(blk_cell BK12111.out 0).trans rfl, (blk_cell BK12111.out 1).trans rfl, (blk_cell BK12111.out 2).trans rfl, (blk_cell BK12111.out 3).trans rfl, (blk_cell BK12111.out 4).trans rfl, (blk_cell BK12111.out 5).trans rfl⟩ (fun hHeld => ?_)
          generalize w58.drew = w59 at HO_12112005 BK12101 BK12111 HB hHeld ⊢
          refine take_ (i := 0) (N := some 93) (v := ?_) (a' := ?_) #[true, false, false, false, false, false] rfl rfl (by kernel_rfl) (fun _ _ _ h => h) (Or.inl ⟨by rfl, ?_⟩) hHeld ?_ ?_
          rotate_left
          · rintro w' ⟨s0, s1, s2, s3, s4, s5⟩
            go_simp
            with_reducible rfl
          rotate_left
          · simp only [Act.put, List.setIfInBounds_toArray, List.set_cons_zero, List.set_cons_succ, i64_w, i32_w]
            rfl
          refine take_ (i := 2) (N := some 95) (v := ?_) (a' := ?_) #[true, false, true, false, false, false] rfl rfl (by kernel_rfl) (fun _ _ _ h => h) (Or.inl ⟨by rfl, ?_⟩) hHeld ?_ ?_
          rotate_left
          · rintro w' ⟨s0, s1, s2, s3, s4, s5⟩
            go_simp
            with_reducible rfl
          rotate_left
          · simp only [Act.put, List.setIfInBounds_toArray, List.set_cons_zero, List.set_cons_succ, i64_w, i32_w]
            rfl
          refine one_ (i := 1) (N := some 94) #[true, true, true, false, false, false] rfl rfl (by kernel_rfl) (by decide) (fun K hK => ?_)
          refine goes_ Try.func27 (by kernel_rfl) rfl #[.agg #[.int .i64 t12103, .int .i64 t12104, .int .i64 t12105, .int .i64 a2, .int .i64 t12107, .slice Ao19 t12108.length co19]] (by rfl) rfl rfl (by (try simp only [List.map_toArray, List.map_cons, List.map_nil]); first | done | rfl | (simp only [List.length_drop, List.length_take]; rfl)) ?_
          with_reducible refine (conf_Check.calls t12103 t12104 t12105 a2 t12107 _ _ t12108 t12120 _ ?side1 ?side2 A54.out).mono ?_
          (case side1 => repeat (first | exact (Kd.R_reads' HO_12112005.out).2.2 | (with_reducible refine Kd.C_alloc ?_ _) | (with_reducible refine Kd.C_drewN ?_ _) | (with_reducible refine Kd.C_drew ?_)))
          (case side2 => exact (Kd.R_reads' HO_12112005.out).2.1)
          rintro e w60 ⟨rfl, hb⟩
          refine ⟨_, rfl, ?_⟩
          have n0_ := Aside0.mk (Kd.R_below (by (with_reducible repeat (first | apply Kd.R_alloc | apply Kd.R_drewN | apply Kd.R_drew)); exact HO_12112005.out) hb)
          have n1_ := Aside0.mk (blk_below (g := gb12101) (o := .cells #[.int .i64 a0_0, .int .i64 a0_1, .int .i64 a0_2, .int .i64 a0_3, .int .i64 a0_4, .slice A0_5 l0_5.length c0_5] 35 (0, 0)) (by (with_reducible repeat (first | refine blk_drewN ?_ _ | refine blk_drew ?_ | refine blk_alloc ?_ _)); exact BK12101.out) hb)
          have n2_ := Aside0.mk (blk_below (g := gb12111) (o := .cells #[.int .i64 t12103, .int .i64 t12104, .int .i64 t12105, .int .i64 a2, .int .i64 t12107, .slice Ao19 t12108.length co19] 35 (0, 0)) (by (with_reducible repeat (first | refine blk_drewN ?_ _ | refine blk_drew ?_ | refine blk_alloc ?_ _)); exact BK12111.out) hb)
          have n3_ := Aside0.mk (below_step (by repeat (first | (with_reducible first | exact HB.out | apply below_alloc | apply pw_below_drewN | apply below_drew1 | refine below_set ?_ GE12101.out | refine below_set ?_ GE12111.out) | exact HB.out)) hb)
          clear HO_12112005
          clear BK12101
          clear BK12111
          clear HB
          have HO_12112005 := n0_
          have BK12101 := n1_
          have BK12111 := n2_
          have HB := n3_
          clear n0_ n1_ n2_ n3_
          (try clear hb)
          (try clear hb2)
          (try clear hk)
          (try clear hi)
          refine hK.out _ _ ⟨(blk_cell BK12111.out 0).trans rfl, (blk_cell BK12111.out 1).trans rfl, (blk_cell BK12111.out 2).trans rfl, (blk_cell BK12111.out 3).trans rfl, (blk_cell BK12111.out 4).trans rfl, (blk_cell BK12111.out 5).trans rfl⟩ (fun hHeld => ?_)
          clear hK K
          refine norm_ (a' := ?_) ?_ ?_
          rotate_left
          · show Act.put _ (some 94) _ = _
            simp only [Act.put, List.setIfInBounds_toArray, List.set_cons_zero, List.set_cons_succ, i64_w, i32_w]
            rfl
          refine one_ (i := 3) (N := some 96) #[true, true, true, true, false, false] rfl rfl (by kernel_rfl) (by decide) (fun K hK => ?_)
          refine goes_ Try.func28 (by kernel_rfl) rfl #[.agg #[.int .i64 t12103, .int .i64 t12104, .int .i64 t12105, .int .i64 a2, .int .i64 t12107, .slice Ao19 t12108.length co19]] (by rfl) rfl rfl (by (try simp only [List.map_toArray, List.map_cons, List.map_nil]); first | done | rfl | (simp only [List.length_drop, List.length_take]; rfl)) ?_
          with_reducible refine (plaitingref3_Check.calls kj10 t12103 t12104 t12105 a2 t12107 _ _ t12108 t12121 _ ?side1 ?side2 A55.out).mono ?_
          (case side1 => repeat (first | exact (Kd.R_reads' HO_12112005.out).2.2 | (with_reducible refine Kd.C_alloc ?_ _) | (with_reducible refine Kd.C_drewN ?_ _) | (with_reducible refine Kd.C_drew ?_)))
          (case side2 => exact (Kd.R_reads' HO_12112005.out).2.1)
          rintro e w61 ⟨rfl, hb⟩
          refine ⟨_, rfl, ?_⟩
          have n0_ := Aside0.mk (Kd.R_below (by (with_reducible repeat (first | apply Kd.R_alloc | apply Kd.R_drewN | apply Kd.R_drew)); exact HO_12112005.out) hb)
          have n1_ := Aside0.mk (blk_below (g := gb12101) (o := .cells #[.int .i64 a0_0, .int .i64 a0_1, .int .i64 a0_2, .int .i64 a0_3, .int .i64 a0_4, .slice A0_5 l0_5.length c0_5] 35 (0, 0)) (by (with_reducible repeat (first | refine blk_drewN ?_ _ | refine blk_drew ?_ | refine blk_alloc ?_ _)); exact BK12101.out) hb)
          have n2_ := Aside0.mk (blk_below (g := gb12111) (o := .cells #[.int .i64 t12103, .int .i64 t12104, .int .i64 t12105, .int .i64 a2, .int .i64 t12107, .slice Ao19 t12108.length co19] 35 (0, 0)) (by (with_reducible repeat (first | refine blk_drewN ?_ _ | refine blk_drew ?_ | refine blk_alloc ?_ _)); exact BK12111.out) hb)
          have n3_ := Aside0.mk (below_step (by repeat (first | (with_reducible first | exact HB.out | apply below_alloc | apply pw_below_drewN | apply below_drew1 | refine below_set ?_ GE12101.out | refine below_set ?_ GE12111.out) | exact HB.out)) hb)
          clear HO_12112005
          clear BK12101
          clear BK12111
          clear HB
          have HO_12112005 := n0_
          have BK12101 := n1_
          have BK12111 := n2_
          have HB := n3_
          clear n0_ n1_ n2_ n3_
          (try clear hb)
          (try clear hb2)
          (try clear hk)
          (try clear hi)
          refine hK.out _ _ ⟨(blk_cell BK12111.out 0).trans rfl, (blk_cell BK12111.out 1).trans rfl, (blk_cell BK12111.out 2).trans rfl, (blk_cell BK12111.out 3).trans rfl, (blk_cell BK12111.out 4).trans rfl, (blk_cell BK12111.out 5).trans rfl⟩ (fun hHeld => ?_)
          clear hK K
          refine norm_ (a' := ?_) ?_ ?_
          rotate_left
          · show Act.put _ (some 96) _ = _
            simp only [Act.put, List.setIfInBounds_toArray, List.set_cons_zero, List.set_cons_succ, i64_w, i32_w]
            rfl
          refine pure_ (i := 4) (N := some 97) (v := ?_) (a' := ?_) #[true, true, true, true, true, false] rfl rfl (by kernel_rfl) (fun _ _ _ h => h) (Or.inl ⟨by rfl, ?_⟩) ?_ ?_
          rotate_left
          · intro w'
            go_simp
            with_reducible rfl
          rotate_left
          · simp only [Act.put, List.setIfInBounds_toArray, List.set_cons_zero, List.set_cons_succ, i64_w, i32_w]
            rfl
          refine pure_ (i := 5) (N := some 6) (v := ?_) (a' := ?_) #[true, true, true, true, true, true] rfl rfl (by kernel_rfl) (fun _ _ _ h => h) (Or.inl ⟨by rfl, ?_⟩) ?_ ?_
          rotate_left
          · intro w'
            go_simp
            with_reducible rfl
          rotate_left
          · simp only [Act.put, List.setIfInBounds_toArray, List.set_cons_zero, List.set_cons_succ, i64_w, i32_w]
            rfl
          refine done_ (by kernel_rfl) ?_
          try go_wp2
          go_ret
          exact ⟨by first | rfl | (simp [errW_none, errW_some] <;> rfl) | (simp [*, errW_none, errW_some] <;> rfl), by repeat (first | (with_reducible first | exact HB.out | apply below_alloc | apply pw_below_drewN | apply below_drew1 | refine below_set ?_ GE12101.out | refine below_set ?_ GE12111.out) | exact HB.out)⟩
        rw [if_neg c53] at H
        have c53b0 : (t12115 == 2) = false := beq_eq_false_iff_ne.mpr c53
        have c53b1 : (t12115 != 2) = true := bne_iff_ne.mpr c53
        by_cases c62 : t12115 = 3
        · rw [if_pos c62] at H
          have c62b0 : (t12115 == 3) = true := beq_iff_eq.mpr c62
          have c62b1 : (t12115 != 3) = false := bne_eq_false_iff_eq.mpr c62
          clear c62
          replace H := Option.bind_eq_some_iff.mp H
          obtain ⟨t12122, A630, H⟩ := H
          replace H : ((conf_Check.f t12103 (wrap64 ((wrap64 ((wrap64 (4 * (wrap64 ((wrap64 (t12105 + t12106)) + 1)))) - 1)) + t12122)) t12105 t12106 t12107 t12108).bind fun t12123 => ((plaitingref3_Check.f kj10 t12103 (wrap64 ((wrap64 ((wrap64 (4 * (wrap64 ((wrap64 (t12105 + t12106)) + 1)))) - 1)) + t12122)) t12105 t12106 t12107 t12108).bind fun t12124 => (some (t12123 == t12124)))) = some r := H
          have A63 := Aside0.mk A630
          clear A630
          replace H := Option.bind_eq_some_iff.mp H
          obtain ⟨t12123, A640, H⟩ := H
          replace H : ((plaitingref3_Check.f kj10 t12103 (wrap64 ((wrap64 ((wrap64 (4 * (wrap64 ((wrap64 (t12105 + t12106)) + 1)))) - 1)) + t12122)) t12105 t12106 t12107 t12108).bind fun t12124 => (some (t12123 == t12124))) = some r := H
          have A64 := Aside0.mk A640
          clear A640
          replace H := Option.bind_eq_some_iff.mp H
          obtain ⟨t12124, A650, H⟩ := H
          replace H : (some (t12123 == t12124)) = some r := H
          have A65 := Aside0.mk A650
          clear A650
          obtain rfl := Option.some.inj H
          try go_wp2_with (first | ((with_reducible refine gate_callee (f := 29) rfl ?_); refine goesL_ (some 27) rfl rfl Try.func29 (by kernel_rfl) rfl #[.int .i64 a1, .int .i64 8] rfl (by (try simp only [List.map_toArray, List.map_cons, List.map_nil]); first | done | rfl | (simp only [List.length_drop, List.length_take]; rfl)) ?_; (with_reducible refine (plaitinglaw3_within.calls a1 8 t12115 _ A34.out).mono ?_); rintro e w' ⟨rfl, ⟨nd, rfl⟩⟩; refine ⟨_, rfl, ?_⟩; (try (rw [drewN_self wc]; generalize hq_ : World.drewN wc _ = wc; have n0_ : Aside0 (Kd.R (Kd.int .i64) 3 wc w.heap.size (fun _ => True) (.slice Ao19 t12108.length co19) t12108) := ⟨by rw [← hq_]; exact (by (with_reducible repeat (first | apply Kd.R_alloc | apply Kd.R_drewN | apply Kd.R_drew)); exact HO_12112005.out)⟩; have n1_ : Aside0 (wc.heap[gb12101]? = some (.cells #[.int .i64 a0_0, .int .i64 a0_1, .int .i64 a0_2, .int .i64 a0_3, .int .i64 a0_4, .slice A0_5 l0_5.length c0_5] 35 (0, 0))) := ⟨by rw [← hq_]; exact (by (with_reducible repeat (first | refine blk_drewN ?_ _ | refine blk_drew ?_ | refine blk_alloc ?_ _)); exact BK12101.out)⟩; have n2_ : Aside0 (wc.heap[gb12111]? = some (.cells #[.int .i64 t12103, .int .i64 t12104, .int .i64 t12105, .int .i64 t12106, .int .i64 t12107, .slice Ao19 t12108.length co19] 35 (0, 0))) := ⟨by rw [← hq_]; exact (by (with_reducible repeat (first | refine blk_drewN ?_ _ | refine blk_drew ?_ | refine blk_alloc ?_ _)); exact BK12111.out)⟩; have n3_ : Aside0 (Below w.heap.size w wc) := ⟨by rw [← hq_]; exact (by repeat (first | (with_reducible first | exact HB.out | apply below_alloc | apply pw_below_drewN | apply below_drew1 | refine below_set ?_ GE12101.out | refine below_set ?_ GE12111.out) | exact HB.out))⟩; clear HO_12112005 BK12101 BK12111 HB hq_; have HO_12112005 := n0_; have BK12101 := n1_; have BK12111 := n2_; have HB := n3_; clear n0_ n1_ n2_ n3_))))
          have n0_ := Aside0.mk (Kd.R_drew HO_12112005.out)
          have n1_ := Aside0.mk (blk_drew BK12101.out)
          have n2_ := Aside0.mk (blk_drew BK12111.out)
          have n3_ := Aside0.mk (below_drew1 HB.out)
          clear HO_12112005
          clear BK12101
          clear BK12111
          clear HB
          have HO_12112005 := n0_
          have BK12101 := n1_
          have BK12111 := n2_
          have HB := n3_
          clear n0_ n1_ n2_ n3_
          refine start_ (n := 13) (S := fun w' => w'.cell? ⟨gb12111, 0, none⟩ = some (.int .i64 t12103) ∧ w'.cell? ⟨gb12111, 1, none⟩ = some (.int .i64 t12104) ∧ w'.cell? ⟨gb12111, 2, none⟩ = some (.int .i64 t12105) ∧ w'.cell? ⟨gb12111, 3, none⟩ = some (.int .i64 t12106) ∧ w'.cell? ⟨gb12111, 4, none⟩ = some (.int .i64 t12107) ∧ w'.cell? ⟨gb12111, 5, none⟩ = some (.slice Ao19 t12108.length co19)) (ds := [12]) #[false, false, false, false, false, false, false, false, false, false, false, false, false] (by kernel_rfl) rfl rfl ⟨(blk_cell BK12111.out 0).trans rfl, (blk_cell BK12111.out 1).trans rfl, (blk_cell BK12111.out 2).trans rfl, (blk_cell BK12111.out 3).trans rfl, (blk_cell BK12111.out 4).trans rfl, (blk_cell BK12111.out 5).trans rfl⟩ (fun hHeld => ?_); refine with_tabW plaitinglaw3_ConfChecks.tab16 plaitinglaw3_ConfChecks.bits16 (fun HT_ HW_ => ?_)
          generalize wc.drew = w66 at HO_12112005 BK12101 BK12111 HB hHeld ⊢
          refine pure_ (i := 0) (N := some 42) (v := ?_) (a' := ?_) #[true, false, false, false, false, false, false, false, false, false, false, false, false] rfl rfl (any_of HT_.out (by kernel_rfl)) (fun _ _ _ h => h) (Or.inl ⟨by rfl, ?_⟩) ?_ ?_
          rotate_left
          · intro w'
            go_simp
            with_reducible rfl
          rotate_left
          · simp only [Act.put, List.setIfInBounds_toArray, List.set_cons_zero, List.set_cons_succ, i64_w, i32_w]
            rfl
          refine pure_ (i := 2) (N := some 44) (v := ?_) (a' := ?_) #[true, false, true, false, false, false, false, false, false, false, false, false, false] rfl rfl (any_of HT_.out (by kernel_rfl)) (fun _ _ _ h => h) (Or.inl ⟨by rfl, ?_⟩) ?_ ?_
          rotate_left
          · intro w'
            go_simp
            with_reducible rfl
          rotate_left
          · simp only [Act.put, List.setIfInBounds_toArray, List.set_cons_zero, List.set_cons_succ, i64_w, i32_w]
            rfl
          refine pure_ (i := 8) (N := some 50) (v := ?_) (a' := ?_) #[true, false, true, false, false, false, false, false, true, false, false, false, false] rfl rfl (any_of HT_.out (by kernel_rfl)) (fun _ _ _ h => h) (Or.inl ⟨by rfl, ?_⟩) ?_ ?_
          rotate_left
          · intro w'
            go_simp
            with_reducible rfl
          rotate_left
          · simp only [Act.put, List.setIfInBounds_toArray, List.set_cons_zero, List.set_cons_succ, i64_w, i32_w]
            rfl
          refine take_ (i := 1) (N := some 43) (v := ?_) (a' := ?_) #[true, true, true, false, false, false, false, false, true, false, false, false, false] rfl rfl (take_ofW HT_.out HW_.out (by kernel_rfl)) (fun _ _ _ h => h) (Or.inl ⟨by rfl, ?_⟩) hHeld ?_ ?_
          rotate_left
          · rintro w' ⟨s0, s1, s2, s3, s4, s5⟩
            go_simp
            with_reducible rfl
          rotate_left
          · simp only [Act.put, List.setIfInBounds_toArray, List.set_cons_zero, List.set_cons_succ, i64_w, i32_w]
            rfl
          refine take_ (i := 3) (N := some 45) (v := ?_) (a' := ?_) #[true, true, true, true, false, false, false, false, true, false, false, false, false] rfl rfl (take_ofW HT_.out HW_.out (by kernel_rfl)) (fun _ _ _ h => h) (Or.inl ⟨by rfl, ?_⟩) hHeld ?_ ?_
          rotate_left
          · rintro w' ⟨s0, s1, s2, s3, s4, s5⟩
            go_simp
            with_reducible rfl
          rotate_left
          · simp only [Act.put, List.setIfInBounds_toArray, List.set_cons_zero, List.set_cons_succ, i64_w, i32_w]
            rfl
          refine pure_ (i := 4) (N := some 46) (v := ?_) (a' := ?_) #[true, true, true, true, true, false, false, false, true, false, false, false, false] rfl rfl (any_of HT_.out (by kernel_rfl)) (fun _ _ _ h => h) (Or.inl ⟨by rfl, ?_⟩) ?_ ?_
          rotate_left
          · intro w'
            go_simp
            with_reducible rfl
          rotate_left
          · simp only [Act.put, List.setIfInBounds_toArray, List.set_cons_zero, List.set_cons_succ, i64_w, i32_w]
            rfl
          refine pure_ (i := 5) (N := some 47) (v := ?_) (a' := ?_) #[true, true, true, true, true, true, false, false, true, false, false, false, false] rfl rfl (any_of HT_.out (by kernel_rfl)) (fun _ _ _ h => h) (Or.inl ⟨by rfl, ?_⟩) ?_ ?_
          rotate_left
          · intro w'
            go_simp
            with_reducible rfl
          rotate_left
          · simp only [Act.put, List.setIfInBounds_toArray, List.set_cons_zero, List.set_cons_succ, i64_w, i32_w]
            rfl
          refine pure_ (i := 6) (N := some 48) (v := ?_) (a' := ?_) #[true, true, true, true, true, true, true, false, true, false, false, false, false] rfl rfl (any_of HT_.out (by kernel_rfl)) (fun _ _ _ h => h) (Or.inl ⟨by rfl, ?_⟩) ?_ ?_
          rotate_left
          · intro w'
            go_simp
            with_reducible rfl
          rotate_left
          · simp only [Act.put, List.setIfInBounds_toArray, List.set_cons_zero, List.set_cons_succ, i64_w, i32_w]
            rfl
          refine pure_ (i := 7) (N := some 49) (v := ?_) (a' := ?_) #[true, true, true, true, true, true, true, true, true, false, false, false, false] rfl rfl (any_of HT_.out (by kernel_rfl)) (fun _ _ _ h => h) (Or.inl ⟨by rfl, ?_⟩) ?_ ?_
          rotate_left
          · intro w'
            go_simp
            with_reducible rfl
          rotate_left
          · simp only [Act.put, List.setIfInBounds_toArray, List.set_cons_zero, List.set_cons_succ, i64_w, i32_w]
            rfl
          refine one_ (i := 9) (N := some 51) #[true, true, true, true, true, true, true, true, true, true, false, false, false] rfl rfl (one_of HT_.out (by kernel_rfl)) (by decide) (fun K hK => ?_)
          refine goes_ Try.func29 (by kernel_rfl) rfl #[.int .i64 a2, .int .i64 2] (by rfl) rfl rfl (by (try simp only [List.map_toArray, List.map_cons, List.map_nil]); first | done | rfl | (simp only [List.length_drop, List.length_take]; rfl)) ?_
          with_reducible refine (plaitinglaw3_within.calls a2 2 t12122 _ A63.out).mono ?_
          rintro e w' ⟨rfl, ⟨nd, rfl⟩⟩
          refine ⟨_, rfl, ?_⟩
          refine hK.out _ _ ⟨(blk_cell BK12111.out 0).trans rfl, (blk_cell BK12111.out 1).trans rfl, (blk_cell BK12111.out 2).trans rfl, (blk_cell BK12111.out 3).trans rfl, (blk_cell BK12111.out 4).trans rfl, (blk_cell BK12111.out 5).trans rfl⟩ (fun hHeld => ?_)
          clear hK K
          refine norm_ (a' := ?_) ?_ ?_
          rotate_left
          · show Act.put _ (some 51) _ = _
            simp only [Act.put, List.setIfInBounds_toArray, List.set_cons_zero, List.set_cons_succ, i64_w, i32_w]
            rfl
          refine pure_ (i := 10) (N := some 52) (v := ?_) (a' := ?_) #[true, true, true, true, true, true, true, true, true, true, true, false, false] rfl rfl (any_of HT_.out (by kernel_rfl)) (fun _ _ _ h => h) (Or.inl ⟨by rfl, ?_⟩) ?_ ?_
          rotate_left
          · intro w'
            go_simp
            with_reducible rfl
          rotate_left
          · simp only [Act.put, List.setIfInBounds_toArray, List.set_cons_zero, List.set_cons_succ, i64_w, i32_w]
            rfl
          refine pure_ (i := 11) (N := some 53) (v := ?_) (a' := ?_) #[true, true, true, true, true, true, true, true, true, true, true, true, false] rfl rfl (any_of HT_.out (by kernel_rfl)) (fun _ _ _ h => h) (Or.inl ⟨by rfl, ?_⟩) ?_ ?_
          rotate_left
          · intro w'
            go_simp
            with_reducible rfl
          rotate_left
          · simp only [Act.put, List.setIfInBounds_toArray, List.set_cons_zero, List.set_cons_succ, i64_w, i32_w]
            rfl
          refine last_ (i := 12) (N := none) #[true, true, true, true, true, true, true, true, true, true, true, true, true] rfl rfl (one_of HT_.out (by kernel_rfl)) (by decide) (fun K hK => ?_)
          have hs67 : w66.cell? ⟨gb12111, 1, none⟩ = some (.int .i64 t12104) := (blk_cell BK12111.out 1).trans rfl
          have hfs67 := blk_frozen BK12111.out 1
          have hns67_0 := NB12101_12111.out
          have hms67_0 := NB12111_12101.out
          refine skip_ (w1 := ?_) (by rfl) rfl ?_ ?_
          rotate_left
          · go_simp
            rfl
          refine hK.out _ _ ?_
          clear hK K
          refine done_ (done_of HT_.out (by kernel_rfl)) ?_
          try go_wp2
          (try (rw [drewN_self w66]; generalize hq_ : World.drewN w66 _ = w66; have n0_ := Aside0.mk (Kd.R_at hq_ HO_12112005.out); have n1_ := Aside0.mk (blk_at hq_ BK12101.out); have n2_ := Aside0.mk (blk_at hq_ BK12111.out); have n3_ := Aside0.mk (below_at hq_ HB.out); clear hq_ HO_12112005 BK12101 BK12111 HB; have HO_12112005 := n0_; have BK12101 := n1_; have BK12111 := n2_; have HB := n3_; clear n0_ n1_ n2_ n3_))
          have n0_ : Aside0 (Kd.R (Kd.int .i64) 3 (w66.setCell ⟨gb12111, 1, none⟩ (.int .i64 (wrap64 ((wrap64 ((wrap64 (4 * (wrap64 ((wrap64 (t12105 + t12106)) + 1)))) - 1)) + t12122)))) w.heap.size (fun _ => True) (.slice Ao19 t12108.length co19) t12108) := ⟨by (with_reducible repeat (first | apply Kd.R_alloc | apply Kd.R_drewN | apply Kd.R_drew)); exact Kd.R_mono (Kd.R_far (p := ⟨gb12111, 1, none⟩) (Kd.R_types HO_12112005.out BK12111.out (by decide)) (fun _ hk => hk.2) (.int .i64 (wrap64 ((wrap64 ((wrap64 (4 * (wrap64 ((wrap64 (t12105 + t12106)) + 1)))) - 1)) + t12122)))) (fun _ hk => trivial)⟩
          have n1_ : Aside0 ((w66.setCell ⟨gb12111, 1, none⟩ (.int .i64 (wrap64 ((wrap64 ((wrap64 (4 * (wrap64 ((wrap64 (t12105 + t12106)) + 1)))) - 1)) + t12122)))).heap[gb12101]? = some (.cells #[.int .i64 a0_0, .int .i64 a0_1, .int .i64 a0_2, .int .i64 a0_3, .int .i64 a0_4, .slice A0_5 l0_5.length c0_5] 35 (0, 0))) := ⟨by (with_reducible repeat (first | refine blk_drewN ?_ _ | refine blk_drew ?_ | refine blk_alloc ?_ _)); refine blk_far ?_ NB12101_12111.out _; (with_reducible repeat (first | refine blk_drewN ?_ _ | refine blk_drew ?_ | refine blk_alloc ?_ _)); exact BK12101.out⟩
          have n2_ : Aside0 ((w66.setCell ⟨gb12111, 1, none⟩ (.int .i64 (wrap64 ((wrap64 ((wrap64 (4 * (wrap64 ((wrap64 (t12105 + t12106)) + 1)))) - 1)) + t12122)))).heap[gb12111]? = some (.cells #[.int .i64 t12103, .int .i64 (wrap64 ((wrap64 ((wrap64 (4 * (wrap64 ((wrap64 (t12105 + t12106)) + 1)))) - 1)) + t12122)), .int .i64 t12105, .int .i64 t12106, .int .i64 t12107, .slice Ao19 t12108.length co19] 35 (0, 0))) := ⟨by (with_reducible repeat (first | refine blk_drewN ?_ _ | refine blk_drew ?_ | refine blk_alloc ?_ _)); refine blk_put (cs := #[.int .i64 t12103, .int .i64 t12104, .int .i64 t12105, .int .i64 t12106, .int .i64 t12107, .slice Ao19 t12108.length co19]) ?_ 1 _ rfl; (with_reducible repeat (first | refine blk_drewN ?_ _ | refine blk_drew ?_ | refine blk_alloc ?_ _)); exact BK12111.out⟩
          have n3_ : Aside0 (Below w.heap.size w (w66.setCell ⟨gb12111, 1, none⟩ (.int .i64 (wrap64 ((wrap64 ((wrap64 (4 * (wrap64 ((wrap64 (t12105 + t12106)) + 1)))) - 1)) + t12122))))) := ⟨by repeat (first | (with_reducible first | exact HB.out | apply below_alloc | apply pw_below_drewN | apply below_drew1 | refine below_set ?_ GE12101.out | refine below_set ?_ GE12111.out) | exact HB.out)⟩
          (try clear HO_12112005)
          (try clear BK12101)
          (try clear BK12111)
          (try clear HB)
          generalize (w66.setCell ⟨gb12111, 1, none⟩ (.int .i64 (wrap64 ((wrap64 ((wrap64 (4 * (wrap64 ((wrap64 (t12105 + t12106)) + 1)))) - 1)) + t12122)))) = w68 at n0_ n1_ n2_ n3_ ⊢
          have HO_12112005 := n0_
          have BK12101 := n1_
          have BK12111 := n2_
          have HB := n3_
          clear n0_ n1_ n2_ n3_
          (try (rw [drewN_self w68]; generalize hq_ : World.drewN w68 _ = w68; have n0_ : Aside0 (Kd.R (Kd.int .i64) 3 w68 w.heap.size (fun _ => True) (.slice Ao19 t12108.length co19) t12108) := ⟨by rw [← hq_]; exact (by (with_reducible repeat (first | apply Kd.R_alloc | apply Kd.R_drewN | apply Kd.R_drew)); exact HO_12112005.out)⟩; have n1_ : Aside0 (w68.heap[gb12101]? = some (.cells #[.int .i64 a0_0, .int .i64 a0_1, .int .i64 a0_2, .int .i64 a0_3, .int .i64 a0_4, .slice A0_5 l0_5.length c0_5] 35 (0, 0))) := ⟨by rw [← hq_]; exact (by (with_reducible repeat (first | refine blk_drewN ?_ _ | refine blk_drew ?_ | refine blk_alloc ?_ _)); exact BK12101.out)⟩; have n2_ : Aside0 (w68.heap[gb12111]? = some (.cells #[.int .i64 t12103, .int .i64 (wrap64 ((wrap64 ((wrap64 (4 * (wrap64 ((wrap64 (t12105 + t12106)) + 1)))) - 1)) + t12122)), .int .i64 t12105, .int .i64 t12106, .int .i64 t12107, .slice Ao19 t12108.length co19] 35 (0, 0))) := ⟨by rw [← hq_]; exact (by (with_reducible repeat (first | refine blk_drewN ?_ _ | refine blk_drew ?_ | refine blk_alloc ?_ _)); exact BK12111.out)⟩; have n3_ : Aside0 (Below w.heap.size w w68) := ⟨by rw [← hq_]; exact (by repeat (first | (with_reducible first | exact HB.out | apply below_alloc | apply pw_below_drewN | apply below_drew1 | refine below_set ?_ GE12101.out | refine below_set ?_ GE12111.out) | exact HB.out))⟩; clear HO_12112005 BK12101 BK12111 HB hq_; have HO_12112005 := n0_; have BK12101 := n1_; have BK12111 := n2_; have HB := n3_; clear n0_ n1_ n2_ n3_))
          have n0_ := Aside0.mk (Kd.R_drew HO_12112005.out)
          have n1_ := Aside0.mk (blk_drew BK12101.out)
          have n2_ := Aside0.mk (blk_drew BK12111.out)
          have n3_ := Aside0.mk (below_drew1 HB.out)
          clear HO_12112005
          clear BK12101
          clear BK12111
          clear HB
          have HO_12112005 := n0_
          have BK12101 := n1_
          have BK12111 := n2_
          have HB := n3_
          clear n0_ n1_ n2_ n3_
          refine start_ (n := 6) (S := fun w' => w'.cell? ⟨gb12111, 0, none⟩ = some (.int .i64 t12103) ∧ w'.cell? ⟨gb12111, 1, none⟩ = some (.int .i64 (wrap64 ((wrap64 ((wrap64 (4 * (wrap64 ((wrap64 (t12105 + t12106)) + 1)))) - 1)) + t12122))) ∧ w'.cell? ⟨gb12111, 2, none⟩ = some (.int .i64 t12105) ∧ w'.cell? ⟨gb12111, 3, none⟩ = some (.int .i64 t12106) ∧ w'.cell? ⟨gb12111, 4, none⟩ = some (.int .i64 t12107) ∧ w'.cell? ⟨gb12111, 5, none⟩ = some (.slice Ao19 t12108.length co19)) (ds := []) #[false, false, false, false, false, false] (by kernel_rfl) rfl rfl ⟨(blk_cell BK12111.out 0).trans rfl, (blk_cell BK12111.out 1).trans rfl, (blk_cell BK12111.out 2).trans rfl, (blk_cell BK12111.out 3).trans rfl, (blk_cell BK12111.out 4).trans rfl, (blk_cell BK12111.out 5).trans rfl⟩ (fun hHeld => ?_)
          generalize w68.drew = w69 at HO_12112005 BK12101 BK12111 HB hHeld ⊢
          refine take_ (i := 0) (N := some 93) (v := ?_) (a' := ?_) #[true, false, false, false, false, false] rfl rfl (by kernel_rfl) (fun _ _ _ h => h) (Or.inl ⟨by rfl, ?_⟩) hHeld ?_ ?_
          rotate_left
          · rintro w' ⟨s0, s1, s2, s3, s4, s5⟩
            go_simp
            with_reducible rfl
          rotate_left
          · simp only [Act.put, List.setIfInBounds_toArray, List.set_cons_zero, List.set_cons_succ, i64_w, i32_w]
            rfl
          refine take_ (i := 2) (N := some 95) (v := ?_) (a' := ?_) #[true, false, true, false, false, false] rfl rfl (by kernel_rfl) (fun _ _ _ h => h) (Or.inl ⟨by rfl, ?_⟩) hHeld ?_ ?_
          rotate_left
          · rintro w' ⟨s0, s1, s2, s3, s4, s5⟩
            go_simp
            with_reducible rfl
          rotate_left
          · simp only [Act.put, List.setIfInBounds_toArray, List.set_cons_zero, List.set_cons_succ, i64_w, i32_w]
            rfl
          refine one_ (i := 1) (N := some 94) #[true, true, true, false, false, false] rfl rfl (by kernel_rfl) (by decide) (fun K hK => ?_)
          refine goes_ Try.func27 (by kernel_rfl) rfl #[.agg #[.int .i64 t12103, .int .i64 (wrap64 ((wrap64 ((wrap64 (4 * (wrap64 ((wrap64 (t12105 + t12106)) + 1)))) - 1)) + t12122)), .int .i64 t12105, .int .i64 t12106, .int .i64 t12107, .slice Ao19 t12108.length co19]] (by rfl) rfl rfl (by (try simp only [List.map_toArray, List.map_cons, List.map_nil]); first | done | rfl | (simp only [List.length_drop, List.length_take]; rfl)) ?_
          with_reducible refine (conf_Check.calls t12103 (wrap64 ((wrap64 ((wrap64 (4 * (wrap64 ((wrap64 (t12105 + t12106)) + 1)))) - 1)) + t12122)) t12105 t12106 t12107 _ _ t12108 t12123 _ ?side1 ?side2 A64.out).mono ?_
          (case side1 => repeat (first | exact (Kd.R_reads' HO_12112005.out).2.2 | (with_reducible refine Kd.C_alloc ?_ _) | (with_reducible refine Kd.C_drewN ?_ _) | (with_reducible refine Kd.C_drew ?_)))
          (case side2 => exact (Kd.R_reads' HO_12112005.out).2.1)
          rintro e w70 ⟨rfl, hb⟩
          refine ⟨_, rfl, ?_⟩
          have n0_ := Aside0.mk (Kd.R_below (by (with_reducible repeat (first | apply Kd.R_alloc | apply Kd.R_drewN | apply Kd.R_drew)); exact HO_12112005.out) hb)
          have n1_ := Aside0.mk (blk_below (g := gb12101) (o := .cells #[.int .i64 a0_0, .int .i64 a0_1, .int .i64 a0_2, .int .i64 a0_3, .int .i64 a0_4, .slice A0_5 l0_5.length c0_5] 35 (0, 0)) (by (with_reducible repeat (first | refine blk_drewN ?_ _ | refine blk_drew ?_ | refine blk_alloc ?_ _)); exact BK12101.out) hb)
          have n2_ := Aside0.mk (blk_below (g := gb12111) (o := .cells #[.int .i64 t12103, .int .i64 (wrap64 ((wrap64 ((wrap64 (4 * (wrap64 ((wrap64 (t12105 + t12106)) + 1)))) - 1)) + t12122)), .int .i64 t12105, .int .i64 t12106, .int .i64 t12107, .slice Ao19 t12108.length co19] 35 (0, 0)) (by (with_reducible repeat (first | refine blk_drewN ?_ _ | refine blk_drew ?_ | refine blk_alloc ?_ _)); exact BK12111.out) hb)
          have n3_ := Aside0.mk (below_step (by repeat (first | (with_reducible first | exact HB.out | apply below_alloc | apply pw_below_drewN | apply below_drew1 | refine below_set ?_ GE12101.out | refine below_set ?_ GE12111.out) | exact HB.out)) hb)
          clear HO_12112005
          clear BK12101
          clear BK12111
          clear HB
          have HO_12112005 := n0_
          have BK12101 := n1_
          have BK12111 := n2_
          have HB := n3_
          clear n0_ n1_ n2_ n3_
          (try clear hb)
          (try clear hb2)
          (try clear hk)
          (try clear hi)
          refine hK.out _ _ ⟨(blk_cell BK12111.out 0).trans rfl, (blk_cell BK12111.out 1).trans rfl, (blk_cell BK12111.out 2).trans rfl, (blk_cell BK12111.out 3).trans rfl, (blk_cell BK12111.out 4).trans rfl, (blk_cell BK12111.out 5).trans rfl⟩ (fun hHeld => ?_)
          clear hK K
          refine norm_ (a' := ?_) ?_ ?_
          rotate_left
          · show Act.put _ (some 94) _ = _
            simp only [Act.put, List.setIfInBounds_toArray, List.set_cons_zero, List.set_cons_succ, i64_w, i32_w]
            rfl
          refine one_ (i := 3) (N := some 96) #[true, true, true, true, false, false] rfl rfl (by kernel_rfl) (by decide) (fun K hK => ?_)
          refine goes_ Try.func28 (by kernel_rfl) rfl #[.agg #[.int .i64 t12103, .int .i64 (wrap64 ((wrap64 ((wrap64 (4 * (wrap64 ((wrap64 (t12105 + t12106)) + 1)))) - 1)) + t12122)), .int .i64 t12105, .int .i64 t12106, .int .i64 t12107, .slice Ao19 t12108.length co19]] (by rfl) rfl rfl (by (try simp only [List.map_toArray, List.map_cons, List.map_nil]); first | done | rfl | (simp only [List.length_drop, List.length_take]; rfl)) ?_
          with_reducible refine (plaitingref3_Check.calls kj10 t12103 (wrap64 ((wrap64 ((wrap64 (4 * (wrap64 ((wrap64 (t12105 + t12106)) + 1)))) - 1)) + t12122)) t12105 t12106 t12107 _ _ t12108 t12124 _ ?side1 ?side2 A65.out).mono ?_
          (case side1 => repeat (first | exact (Kd.R_reads' HO_12112005.out).2.2 | (with_reducible refine Kd.C_alloc ?_ _) | (with_reducible refine Kd.C_drewN ?_ _) | (with_reducible refine Kd.C_drew ?_)))
          (case side2 => exact (Kd.R_reads' HO_12112005.out).2.1)
          rintro e w71 ⟨rfl, hb⟩
          refine ⟨_, rfl, ?_⟩
          have n0_ := Aside0.mk (Kd.R_below (by (with_reducible repeat (first | apply Kd.R_alloc | apply Kd.R_drewN | apply Kd.R_drew)); exact HO_12112005.out) hb)
          have n1_ := Aside0.mk (blk_below (g := gb12101) (o := .cells #[.int .i64 a0_0, .int .i64 a0_1, .int .i64 a0_2, .int .i64 a0_3, .int .i64 a0_4, .slice A0_5 l0_5.length c0_5] 35 (0, 0)) (by (with_reducible repeat (first | refine blk_drewN ?_ _ | refine blk_drew ?_ | refine blk_alloc ?_ _)); exact BK12101.out) hb)
          have n2_ := Aside0.mk (blk_below (g := gb12111) (o := .cells #[.int .i64 t12103, .int .i64 (wrap64 ((wrap64 ((wrap64 (4 * (wrap64 ((wrap64 (t12105 + t12106)) + 1)))) - 1)) + t12122)), .int .i64 t12105, .int .i64 t12106, .int .i64 t12107, .slice Ao19 t12108.length co19] 35 (0, 0)) (by (with_reducible repeat (first | refine blk_drewN ?_ _ | refine blk_drew ?_ | refine blk_alloc ?_ _)); exact BK12111.out) hb)
          have n3_ := Aside0.mk (below_step (by repeat (first | (with_reducible first | exact HB.out | apply below_alloc | apply pw_below_drewN | apply below_drew1 | refine below_set ?_ GE12101.out | refine below_set ?_ GE12111.out) | exact HB.out)) hb)
          clear HO_12112005
          clear BK12101
          clear BK12111
          clear HB
          have HO_12112005 := n0_
          have BK12101 := n1_
          have BK12111 := n2_
          have HB := n3_
          clear n0_ n1_ n2_ n3_
          (try clear hb)
          (try clear hb2)
          (try clear hk)
          (try clear hi)
          refine hK.out _ _ ⟨(blk_cell BK12111.out 0).trans rfl, (blk_cell BK12111.out 1).trans rfl, (blk_cell BK12111.out 2).trans rfl, (blk_cell BK12111.out 3).trans rfl, (blk_cell BK12111.out 4).trans rfl, (blk_cell BK12111.out 5).trans rfl⟩ (fun hHeld => ?_)
          clear hK K
          refine norm_ (a' := ?_) ?_ ?_
          rotate_left
          · show Act.put _ (some 96) _ = _
            simp only [Act.put, List.setIfInBounds_toArray, List.set_cons_zero, List.set_cons_succ, i64_w, i32_w]
            rfl
          refine pure_ (i := 4) (N := some 97) (v := ?_) (a' := ?_) #[true, true, true, true, true, false] rfl rfl (by kernel_rfl) (fun _ _ _ h => h) (Or.inl ⟨by rfl, ?_⟩) ?_ ?_
          rotate_left
          · intro w'
            go_simp
            with_reducible rfl
          rotate_left
          · simp only [Act.put, List.setIfInBounds_toArray, List.set_cons_zero, List.set_cons_succ, i64_w, i32_w]
            rfl
          refine pure_ (i := 5) (N := some 6) (v := ?_) (a' := ?_) #[true, true, true, true, true, true] rfl rfl (by kernel_rfl) (fun _ _ _ h => h) (Or.inl ⟨by rfl, ?_⟩) ?_ ?_
          rotate_left
          · intro w'
            go_simp
            with_reducible rfl
          rotate_left
          · simp only [Act.put, List.setIfInBounds_toArray, List.set_cons_zero, List.set_cons_succ, i64_w, i32_w]
            rfl
          refine done_ (by kernel_rfl) ?_
          try go_wp2
          go_ret
          exact ⟨by first | rfl | (simp [errW_none, errW_some] <;> rfl) | (simp [*, errW_none, errW_some] <;> rfl), by repeat (first | (with_reducible first | exact HB.out | apply below_alloc | apply pw_below_drewN | apply below_drew1 | refine below_set ?_ GE12101.out | refine below_set ?_ GE12111.out) | exact HB.out)⟩
        rw [if_neg c62] at H
        have c62b0 : (t12115 == 3) = false := beq_eq_false_iff_ne.mpr c62
        have c62b1 : (t12115 != 3) = true := bne_iff_ne.mpr c62
        by_cases c72 : t12115 = 4
        · rw [if_pos c72] at H
          have c72b0 : (t12115 == 4) = true := beq_iff_eq.mpr c72
          have c72b1 : (t12115 != 4) = false := bne_eq_false_iff_eq.mpr c72
          clear c72
          replace H := Option.bind_eq_some_iff.mp H
          obtain ⟨t12125, A730, H⟩ := H
          replace H : ((conf_Check.f t12103 (wrap64 (10000 + t12125)) t12105 t12106 t12107 t12108).bind fun t12126 => ((plaitingref3_Check.f kj10 t12103 (wrap64 (10000 + t12125)) t12105 t12106 t12107 t12108).bind fun t12127 => (some (t12126 == t12127)))) = some r := H
          have A73 := Aside0.mk A730
          clear A730
          replace H := Option.bind_eq_some_iff.mp H
          obtain ⟨t12126, A740, H⟩ := H
          replace H : ((plaitingref3_Check.f kj10 t12103 (wrap64 (10000 + t12125)) t12105 t12106 t12107 t12108).bind fun t12127 => (some (t12126 == t12127))) = some r := H
          have A74 := Aside0.mk A740
          clear A740
          replace H := Option.bind_eq_some_iff.mp H
          obtain ⟨t12127, A750, H⟩ := H
          replace H : (some (t12126 == t12127)) = some r := H
          have A75 := Aside0.mk A750
          clear A750
          obtain rfl := Option.some.inj H
          try go_wp2_with (first | ((with_reducible refine gate_callee (f := 29) rfl ?_); refine goesL_ (some 27) rfl rfl Try.func29 (by kernel_rfl) rfl #[.int .i64 a1, .int .i64 8] rfl (by (try simp only [List.map_toArray, List.map_cons, List.map_nil]); first | done | rfl | (simp only [List.length_drop, List.length_take]; rfl)) ?_; (with_reducible refine (plaitinglaw3_within.calls a1 8 t12115 _ A34.out).mono ?_); rintro e w' ⟨rfl, ⟨nd, rfl⟩⟩; refine ⟨_, rfl, ?_⟩; (try (rw [drewN_self wc]; generalize hq_ : World.drewN wc _ = wc; have n0_ : Aside0 (Kd.R (Kd.int .i64) 3 wc w.heap.size (fun _ => True) (.slice Ao19 t12108.length co19) t12108) := ⟨by rw [← hq_]; exact (by (with_reducible repeat (first | apply Kd.R_alloc | apply Kd.R_drewN | apply Kd.R_drew)); exact HO_12112005.out)⟩; have n1_ : Aside0 (wc.heap[gb12101]? = some (.cells #[.int .i64 a0_0, .int .i64 a0_1, .int .i64 a0_2, .int .i64 a0_3, .int .i64 a0_4, .slice A0_5 l0_5.length c0_5] 35 (0, 0))) := ⟨by rw [← hq_]; exact (by (with_reducible repeat (first | refine blk_drewN ?_ _ | refine blk_drew ?_ | refine blk_alloc ?_ _)); exact BK12101.out)⟩; have n2_ : Aside0 (wc.heap[gb12111]? = some (.cells #[.int .i64 t12103, .int .i64 t12104, .int .i64 t12105, .int .i64 t12106, .int .i64 t12107, .slice Ao19 t12108.length co19] 35 (0, 0))) := ⟨by rw [← hq_]; exact (by (with_reducible repeat (first | refine blk_drewN ?_ _ | refine blk_drew ?_ | refine blk_alloc ?_ _)); exact BK12111.out)⟩; have n3_ : Aside0 (Below w.heap.size w wc) := ⟨by rw [← hq_]; exact (by repeat (first | (with_reducible first | exact HB.out | apply below_alloc | apply pw_below_drewN | apply below_drew1 | refine below_set ?_ GE12101.out | refine below_set ?_ GE12111.out) | exact HB.out))⟩; clear HO_12112005 BK12101 BK12111 HB hq_; have HO_12112005 := n0_; have BK12101 := n1_; have BK12111 := n2_; have HB := n3_; clear n0_ n1_ n2_ n3_))) | ((with_reducible refine gate_callee (f := 29) rfl ?_); refine goesL_ (some 57) rfl rfl Try.func29 (by kernel_rfl) rfl #[.int .i64 a2, .int .i64 2] rfl (by (try simp only [List.map_toArray, List.map_cons, List.map_nil]); first | done | rfl | (simp only [List.length_drop, List.length_take]; rfl)) ?_; (with_reducible refine (plaitinglaw3_within.calls a2 2 t12125 _ A73.out).mono ?_); rintro e w' ⟨rfl, ⟨nd, rfl⟩⟩; refine ⟨_, rfl, ?_⟩; (try (rw [drewN_self wc]; generalize hq_ : World.drewN wc _ = wc; have n0_ : Aside0 (Kd.R (Kd.int .i64) 3 wc w.heap.size (fun _ => True) (.slice Ao19 t12108.length co19) t12108) := ⟨by rw [← hq_]; exact (by (with_reducible repeat (first | apply Kd.R_alloc | apply Kd.R_drewN | apply Kd.R_drew)); exact HO_12112005.out)⟩; have n1_ : Aside0 (wc.heap[gb12101]? = some (.cells #[.int .i64 a0_0, .int .i64 a0_1, .int .i64 a0_2, .int .i64 a0_3, .int .i64 a0_4, .slice A0_5 l0_5.length c0_5] 35 (0, 0))) := ⟨by rw [← hq_]; exact (by (with_reducible repeat (first | refine blk_drewN ?_ _ | refine blk_drew ?_ | refine blk_alloc ?_ _)); exact BK12101.out)⟩; have n2_ : Aside0 (wc.heap[gb12111]? = some (.cells #[.int .i64 t12103, .int .i64 t12104, .int .i64 t12105, .int .i64 t12106, .int .i64 t12107, .slice Ao19 t12108.length co19] 35 (0, 0))) := ⟨by rw [← hq_]; exact (by (with_reducible repeat (first | refine blk_drewN ?_ _ | refine blk_drew ?_ | refine blk_alloc ?_ _)); exact BK12111.out)⟩; have n3_ : Aside0 (Below w.heap.size w wc) := ⟨by rw [← hq_]; exact (by repeat (first | (with_reducible first | exact HB.out | apply below_alloc | apply pw_below_drewN | apply below_drew1 | refine below_set ?_ GE12101.out | refine below_set ?_ GE12111.out) | exact HB.out))⟩; clear HO_12112005 BK12101 BK12111 HB hq_; have HO_12112005 := n0_; have BK12101 := n1_; have BK12111 := n2_; have HB := n3_; clear n0_ n1_ n2_ n3_)); have hnb76 := NB12111_12101.out; have hnc76 := NB12101_12111.out; have hcz77_0 : wc.cell? ⟨gb12111, 0, none⟩ = some (.int .i64 t12103) := (blk_cell BK12111.out 0).trans rfl; have hcz77_1 : wc.cell? ⟨gb12111, 1, none⟩ = some (.int .i64 t12104) := (blk_cell BK12111.out 1).trans rfl; have hcz77_2 : wc.cell? ⟨gb12111, 2, none⟩ = some (.int .i64 t12105) := (blk_cell BK12111.out 2).trans rfl; have hcz77_3 : wc.cell? ⟨gb12111, 3, none⟩ = some (.int .i64 t12106) := (blk_cell BK12111.out 3).trans rfl; have hcz77_4 : wc.cell? ⟨gb12111, 4, none⟩ = some (.int .i64 t12107) := (blk_cell BK12111.out 4).trans rfl; have hcz77_5 : wc.cell? ⟨gb12111, 5, none⟩ = some (.slice Ao19 t12108.length co19) := (blk_cell BK12111.out 5).trans rfl; have hfz77_0 := blk_frozen BK12111.out 0; have hfz77_1 := blk_frozen BK12111.out 1; have hfz77_2 := blk_frozen BK12111.out 2; have hfz77_3 := blk_frozen BK12111.out 3; have hfz77_4 := blk_frozen BK12111.out 4; have hfz77_5 := blk_frozen BK12111.out 5))
          have n0_ : Aside0 (Kd.R (Kd.int .i64) 3 (wc.setCell ⟨gb12111, 1, none⟩ (.int .i64 (wrap64 (10000 + t12125)))) w.heap.size (fun _ => True) (.slice Ao19 t12108.length co19) t12108) := ⟨by (with_reducible repeat (first | apply Kd.R_alloc | apply Kd.R_drewN | apply Kd.R_drew)); exact Kd.R_mono (Kd.R_far (p := ⟨gb12111, 1, none⟩) (Kd.R_types HO_12112005.out BK12111.out (by decide)) (fun _ hk => hk.2) (.int .i64 (wrap64 (10000 + t12125)))) (fun _ hk => trivial)⟩
          have n1_ : Aside0 ((wc.setCell ⟨gb12111, 1, none⟩ (.int .i64 (wrap64 (10000 + t12125)))).heap[gb12101]? = some (.cells #[.int .i64 a0_0, .int .i64 a0_1, .int .i64 a0_2, .int .i64 a0_3, .int .i64 a0_4, .slice A0_5 l0_5.length c0_5] 35 (0, 0))) := ⟨by (with_reducible repeat (first | refine blk_drewN ?_ _ | refine blk_drew ?_ | refine blk_alloc ?_ _)); refine blk_far ?_ NB12101_12111.out _; (with_reducible repeat (first | refine blk_drewN ?_ _ | refine blk_drew ?_ | refine blk_alloc ?_ _)); exact BK12101.out⟩
          have n2_ : Aside0 ((wc.setCell ⟨gb12111, 1, none⟩ (.int .i64 (wrap64 (10000 + t12125)))).heap[gb12111]? = some (.cells #[.int .i64 t12103, .int .i64 (wrap64 (10000 + t12125)), .int .i64 t12105, .int .i64 t12106, .int .i64 t12107, .slice Ao19 t12108.length co19] 35 (0, 0))) := ⟨by (with_reducible repeat (first | refine blk_drewN ?_ _ | refine blk_drew ?_ | refine blk_alloc ?_ _)); refine blk_put (cs := #[.int .i64 t12103, .int .i64 t12104, .int .i64 t12105, .int .i64 t12106, .int .i64 t12107, .slice Ao19 t12108.length co19]) ?_ 1 _ rfl; (with_reducible repeat (first | refine blk_drewN ?_ _ | refine blk_drew ?_ | refine blk_alloc ?_ _)); exact BK12111.out⟩
          have n3_ : Aside0 (Below w.heap.size w (wc.setCell ⟨gb12111, 1, none⟩ (.int .i64 (wrap64 (10000 + t12125))))) := ⟨by repeat (first | (with_reducible first | exact HB.out | apply below_alloc | apply pw_below_drewN | apply below_drew1 | refine below_set ?_ GE12101.out | refine below_set ?_ GE12111.out) | exact HB.out)⟩
          (try clear HO_12112005)
          (try clear BK12101)
          (try clear BK12111)
          (try clear HB)
          generalize (wc.setCell ⟨gb12111, 1, none⟩ (.int .i64 (wrap64 (10000 + t12125)))) = w78 at n0_ n1_ n2_ n3_ ⊢
          have HO_12112005 := n0_
          have BK12101 := n1_
          have BK12111 := n2_
          have HB := n3_
          clear n0_ n1_ n2_ n3_
          have n0_ := Aside0.mk (Kd.R_drew HO_12112005.out)
          have n1_ := Aside0.mk (blk_drew BK12101.out)
          have n2_ := Aside0.mk (blk_drew BK12111.out)
          have n3_ := Aside0.mk (below_drew1 HB.out)
          clear HO_12112005
          clear BK12101
          clear BK12111
          clear HB
          have HO_12112005 := n0_
          have BK12101 := n1_
          have BK12111 := n2_
          have HB := n3_
          clear n0_ n1_ n2_ n3_
          refine start_ (n := 6) (S := fun w' => w'.cell? ⟨gb12111, 0, none⟩ = some (.int .i64 t12103) ∧ w'.cell? ⟨gb12111, 1, none⟩ = some (.int .i64 (wrap64 (10000 + t12125))) ∧ w'.cell? ⟨gb12111, 2, none⟩ = some (.int .i64 t12105) ∧ w'.cell? ⟨gb12111, 3, none⟩ = some (.int .i64 t12106) ∧ w'.cell? ⟨gb12111, 4, none⟩ = some (.int .i64 t12107) ∧ w'.cell? ⟨gb12111, 5, none⟩ = some (.slice Ao19 t12108.length co19)) (ds := []) #[false, false, false, false, false, false] (by kernel_rfl) rfl rfl ⟨(blk_cell BK12111.out 0).trans rfl, (blk_cell BK12111.out 1).trans rfl, (blk_cell BK12111.out 2).trans rfl, (blk_cell BK12111.out 3).trans rfl, (blk_cell BK12111.out 4).trans rfl, (blk_cell BK12111.out 5).trans rfl⟩ (fun hHeld => ?_)
          generalize w78.drew = w79 at HO_12112005 BK12101 BK12111 HB hHeld ⊢
          refine take_ (i := 0) (N := some 93) (v := ?_) (a' := ?_) #[true, false, false, false, false, false] rfl rfl (by kernel_rfl) (fun _ _ _ h => h) (Or.inl ⟨by rfl, ?_⟩) hHeld ?_ ?_
          rotate_left
          · rintro w' ⟨s0, s1, s2, s3, s4, s5⟩
            go_simp
            with_reducible rfl
          rotate_left
          · simp only [Act.put, List.setIfInBounds_toArray, List.set_cons_zero, List.set_cons_succ, i64_w, i32_w]
            rfl
          refine take_ (i := 2) (N := some 95) (v := ?_) (a' := ?_) #[true, false, true, false, false, false] rfl rfl (by kernel_rfl) (fun _ _ _ h => h) (Or.inl ⟨by rfl, ?_⟩) hHeld ?_ ?_
          rotate_left
          · rintro w' ⟨s0, s1, s2, s3, s4, s5⟩
            go_simp
            with_reducible rfl
          rotate_left
          · simp only [Act.put, List.setIfInBounds_toArray, List.set_cons_zero, List.set_cons_succ, i64_w, i32_w]
            rfl
          refine one_ (i := 1) (N := some 94) #[true, true, true, false, false, false] rfl rfl (by kernel_rfl) (by decide) (fun K hK => ?_)
          refine goes_ Try.func27 (by kernel_rfl) rfl #[.agg #[.int .i64 t12103, .int .i64 (wrap64 (10000 + t12125)), .int .i64 t12105, .int .i64 t12106, .int .i64 t12107, .slice Ao19 t12108.length co19]] (by rfl) rfl rfl (by (try simp only [List.map_toArray, List.map_cons, List.map_nil]); first | done | rfl | (simp only [List.length_drop, List.length_take]; rfl)) ?_
          with_reducible refine (conf_Check.calls t12103 (wrap64 (10000 + t12125)) t12105 t12106 t12107 _ _ t12108 t12126 _ ?side1 ?side2 A74.out).mono ?_
          (case side1 => repeat (first | exact (Kd.R_reads' HO_12112005.out).2.2 | (with_reducible refine Kd.C_alloc ?_ _) | (with_reducible refine Kd.C_drewN ?_ _) | (with_reducible refine Kd.C_drew ?_)))
          (case side2 => exact (Kd.R_reads' HO_12112005.out).2.1)
          rintro e w80 ⟨rfl, hb⟩
          refine ⟨_, rfl, ?_⟩
          have n0_ := Aside0.mk (Kd.R_below (by (with_reducible repeat (first | apply Kd.R_alloc | apply Kd.R_drewN | apply Kd.R_drew)); exact HO_12112005.out) hb)
          have n1_ := Aside0.mk (blk_below (g := gb12101) (o := .cells #[.int .i64 a0_0, .int .i64 a0_1, .int .i64 a0_2, .int .i64 a0_3, .int .i64 a0_4, .slice A0_5 l0_5.length c0_5] 35 (0, 0)) (by (with_reducible repeat (first | refine blk_drewN ?_ _ | refine blk_drew ?_ | refine blk_alloc ?_ _)); exact BK12101.out) hb)
          have n2_ := Aside0.mk (blk_below (g := gb12111) (o := .cells #[.int .i64 t12103, .int .i64 (wrap64 (10000 + t12125)), .int .i64 t12105, .int .i64 t12106, .int .i64 t12107, .slice Ao19 t12108.length co19] 35 (0, 0)) (by (with_reducible repeat (first | refine blk_drewN ?_ _ | refine blk_drew ?_ | refine blk_alloc ?_ _)); exact BK12111.out) hb)
          have n3_ := Aside0.mk (below_step (by repeat (first | (with_reducible first | exact HB.out | apply below_alloc | apply pw_below_drewN | apply below_drew1 | refine below_set ?_ GE12101.out | refine below_set ?_ GE12111.out) | exact HB.out)) hb)
          clear HO_12112005
          clear BK12101
          clear BK12111
          clear HB
          have HO_12112005 := n0_
          have BK12101 := n1_
          have BK12111 := n2_
          have HB := n3_
          clear n0_ n1_ n2_ n3_
          (try clear hb)
          (try clear hb2)
          (try clear hk)
          (try clear hi)
          refine hK.out _ _ ⟨(blk_cell BK12111.out 0).trans rfl, (blk_cell BK12111.out 1).trans rfl, (blk_cell BK12111.out 2).trans rfl, (blk_cell BK12111.out 3).trans rfl, (blk_cell BK12111.out 4).trans rfl, (blk_cell BK12111.out 5).trans rfl⟩ (fun hHeld => ?_)
          clear hK K
          refine norm_ (a' := ?_) ?_ ?_
          rotate_left
          · show Act.put _ (some 94) _ = _
            simp only [Act.put, List.setIfInBounds_toArray, List.set_cons_zero, List.set_cons_succ, i64_w, i32_w]
            rfl
          refine one_ (i := 3) (N := some 96) #[true, true, true, true, false, false] rfl rfl (by kernel_rfl) (by decide) (fun K hK => ?_)
          refine goes_ Try.func28 (by kernel_rfl) rfl #[.agg #[.int .i64 t12103, .int .i64 (wrap64 (10000 + t12125)), .int .i64 t12105, .int .i64 t12106, .int .i64 t12107, .slice Ao19 t12108.length co19]] (by rfl) rfl rfl (by (try simp only [List.map_toArray, List.map_cons, List.map_nil]); first | done | rfl | (simp only [List.length_drop, List.length_take]; rfl)) ?_
          with_reducible refine (plaitingref3_Check.calls kj10 t12103 (wrap64 (10000 + t12125)) t12105 t12106 t12107 _ _ t12108 t12127 _ ?side1 ?side2 A75.out).mono ?_
          (case side1 => repeat (first | exact (Kd.R_reads' HO_12112005.out).2.2 | (with_reducible refine Kd.C_alloc ?_ _) | (with_reducible refine Kd.C_drewN ?_ _) | (with_reducible refine Kd.C_drew ?_)))
          (case side2 => exact (Kd.R_reads' HO_12112005.out).2.1)
          rintro e w81 ⟨rfl, hb⟩
          refine ⟨_, rfl, ?_⟩
          have n0_ := Aside0.mk (Kd.R_below (by (with_reducible repeat (first | apply Kd.R_alloc | apply Kd.R_drewN | apply Kd.R_drew)); exact HO_12112005.out) hb)
          have n1_ := Aside0.mk (blk_below (g := gb12101) (o := .cells #[.int .i64 a0_0, .int .i64 a0_1, .int .i64 a0_2, .int .i64 a0_3, .int .i64 a0_4, .slice A0_5 l0_5.length c0_5] 35 (0, 0)) (by (with_reducible repeat (first | refine blk_drewN ?_ _ | refine blk_drew ?_ | refine blk_alloc ?_ _)); exact BK12101.out) hb)
          have n2_ := Aside0.mk (blk_below (g := gb12111) (o := .cells #[.int .i64 t12103, .int .i64 (wrap64 (10000 + t12125)), .int .i64 t12105, .int .i64 t12106, .int .i64 t12107, .slice Ao19 t12108.length co19] 35 (0, 0)) (by (with_reducible repeat (first | refine blk_drewN ?_ _ | refine blk_drew ?_ | refine blk_alloc ?_ _)); exact BK12111.out) hb)
          have n3_ := Aside0.mk (below_step (by repeat (first | (with_reducible first | exact HB.out | apply below_alloc | apply pw_below_drewN | apply below_drew1 | refine below_set ?_ GE12101.out | refine below_set ?_ GE12111.out) | exact HB.out)) hb)
          clear HO_12112005
          clear BK12101
          clear BK12111
          clear HB
          have HO_12112005 := n0_
          have BK12101 := n1_
          have BK12111 := n2_
          have HB := n3_
          clear n0_ n1_ n2_ n3_
          (try clear hb)
          (try clear hb2)
          (try clear hk)
          (try clear hi)
          refine hK.out _ _ ⟨(blk_cell BK12111.out 0).trans rfl, (blk_cell BK12111.out 1).trans rfl, (blk_cell BK12111.out 2).trans rfl, (blk_cell BK12111.out 3).trans rfl, (blk_cell BK12111.out 4).trans rfl, (blk_cell BK12111.out 5).trans rfl⟩ (fun hHeld => ?_)
          clear hK K
          refine norm_ (a' := ?_) ?_ ?_
          rotate_left
          · show Act.put _ (some 96) _ = _
            simp only [Act.put, List.setIfInBounds_toArray, List.set_cons_zero, List.set_cons_succ, i64_w, i32_w]
            rfl
          refine pure_ (i := 4) (N := some 97) (v := ?_) (a' := ?_) #[true, true, true, true, true, false] rfl rfl (by kernel_rfl) (fun _ _ _ h => h) (Or.inl ⟨by rfl, ?_⟩) ?_ ?_
          rotate_left
          · intro w'
            go_simp
            with_reducible rfl
          rotate_left
          · simp only [Act.put, List.setIfInBounds_toArray, List.set_cons_zero, List.set_cons_succ, i64_w, i32_w]
            rfl
          refine pure_ (i := 5) (N := some 6) (v := ?_) (a' := ?_) #[true, true, true, true, true, true] rfl rfl (by kernel_rfl) (fun _ _ _ h => h) (Or.inl ⟨by rfl, ?_⟩) ?_ ?_
          rotate_left
          · intro w'
            go_simp
            with_reducible rfl
          rotate_left
          · simp only [Act.put, List.setIfInBounds_toArray, List.set_cons_zero, List.set_cons_succ, i64_w, i32_w]
            rfl
          refine done_ (by kernel_rfl) ?_
          try go_wp2
          go_ret
          exact ⟨by first | rfl | (simp [errW_none, errW_some] <;> rfl) | (simp [*, errW_none, errW_some] <;> rfl), by repeat (first | (with_reducible first | exact HB.out | apply below_alloc | apply pw_below_drewN | apply below_drew1 | refine below_set ?_ GE12101.out | refine below_set ?_ GE12111.out) | exact HB.out)⟩
        rw [if_neg c72] at H
        have c72b0 : (t12115 == 4) = false := beq_eq_false_iff_ne.mpr c72
        have c72b1 : (t12115 != 4) = true := bne_iff_ne.mpr c72
        by_cases c82 : t12115 = 5
        · rw [if_pos c82] at H
          have c82b0 : (t12115 == 5) = true := beq_iff_eq.mpr c82
          have c82b1 : (t12115 != 5) = false := bne_eq_false_iff_eq.mpr c82
          clear c82
          obtain ⟨y12128, hy12128⟩ : ∃ y_ : List Int, y_ = (([(-1), 65535, 65536, a2] : List Int)) := ⟨_, rfl⟩
          replace H : ((plaitinglaw3_within.f a2 4).bind fun t12131 => (if 0 ≤ t12131 then (if t12131 < (y12128.length : Int) then ((conf_Check.f t12103 t12104 t12105 t12106 (rd y12128 t12131) t12108).bind fun t12133 => ((plaitingref3_Check.f kj10 t12103 t12104 t12105 t12106 (rd y12128 t12131) t12108).bind fun t12134 => (some (t12133 == t12134)))) else (none)) else (none))) = some r := by first | (rw [hy12128]; with_reducible exact H) | (have H2_ := (Option.bind_some _ _).symm.trans H; rw [hy12128]; with_reducible exact H2_) | (have H2_ := (Option.bind_some _ _).symm.trans H; with_reducible exact H2_) | with_reducible exact H | (rw [hy12128]; exact H) | exact H
          have Ny12128 := Aside0.mk hy12128
          clear hy12128
          replace H := Option.bind_eq_some_iff.mp H
          obtain ⟨t12131, A830, H⟩ := H
          replace H : (if 0 ≤ t12131 then (if t12131 < (y12128.length : Int) then ((conf_Check.f t12103 t12104 t12105 t12106 (rd y12128 t12131) t12108).bind fun t12133 => ((plaitingref3_Check.f kj10 t12103 t12104 t12105 t12106 (rd y12128 t12131) t12108).bind fun t12134 => (some (t12133 == t12134)))) else (none)) else (none)) = some r := H
          have A83 := Aside0.mk A830
          clear A830
          by_cases c84 : 0 ≤ t12131
          · rw [if_pos c84] at H
            have c84b0 : decide (0 ≤ t12131) = true := decide_eq_true c84
            clear c84
            by_cases c85 : t12131 < (y12128.length : Int)
            · rw [if_pos c85] at H
              have c85b0 : decide (t12131 < (y12128.length : Int)) = true := decide_eq_true c85
              clear c85
              replace H := Option.bind_eq_some_iff.mp H
              obtain ⟨t12133, A860, H⟩ := H
              replace H : ((plaitingref3_Check.f kj10 t12103 t12104 t12105 t12106 (rd y12128 t12131) t12108).bind fun t12134 => (some (t12133 == t12134))) = some r := H
              have A86 := Aside0.mk A860
              clear A860
              replace H := Option.bind_eq_some_iff.mp H
              obtain ⟨t12134, A870, H⟩ := H
              replace H : (some (t12133 == t12134)) = some r := H
              have A87 := Aside0.mk A870
              clear A870
              obtain rfl := Option.some.inj H
              try go_wp2_with (first | ((with_reducible refine gate_callee (f := 29) rfl ?_); refine goesL_ (some 27) rfl rfl Try.func29 (by kernel_rfl) rfl #[.int .i64 a1, .int .i64 8] rfl (by (try simp only [List.map_toArray, List.map_cons, List.map_nil]); first | done | rfl | (simp only [List.length_drop, List.length_take]; rfl)) ?_; (with_reducible refine (plaitinglaw3_within.calls a1 8 t12115 _ A34.out).mono ?_); rintro e w' ⟨rfl, ⟨nd, rfl⟩⟩; refine ⟨_, rfl, ?_⟩; (try (rw [drewN_self wc]; generalize hq_ : World.drewN wc _ = wc; have n0_ : Aside0 (Kd.R (Kd.int .i64) 3 wc w.heap.size (fun _ => True) (.slice Ao19 t12108.length co19) t12108) := ⟨by rw [← hq_]; exact (by (with_reducible repeat (first | apply Kd.R_alloc | apply Kd.R_drewN | apply Kd.R_drew)); exact HO_12112005.out)⟩; have n1_ : Aside0 (wc.heap[gb12101]? = some (.cells #[.int .i64 a0_0, .int .i64 a0_1, .int .i64 a0_2, .int .i64 a0_3, .int .i64 a0_4, .slice A0_5 l0_5.length c0_5] 35 (0, 0))) := ⟨by rw [← hq_]; exact (by (with_reducible repeat (first | refine blk_drewN ?_ _ | refine blk_drew ?_ | refine blk_alloc ?_ _)); exact BK12101.out)⟩; have n2_ : Aside0 (wc.heap[gb12111]? = some (.cells #[.int .i64 t12103, .int .i64 t12104, .int .i64 t12105, .int .i64 t12106, .int .i64 t12107, .slice Ao19 t12108.length co19] 35 (0, 0))) := ⟨by rw [← hq_]; exact (by (with_reducible repeat (first | refine blk_drewN ?_ _ | refine blk_drew ?_ | refine blk_alloc ?_ _)); exact BK12111.out)⟩; have n3_ : Aside0 (Below w.heap.size w wc) := ⟨by rw [← hq_]; exact (by repeat (first | (with_reducible first | exact HB.out | apply below_alloc | apply pw_below_drewN | apply below_drew1 | refine below_set ?_ GE12101.out | refine below_set ?_ GE12111.out) | exact HB.out))⟩; clear HO_12112005 BK12101 BK12111 HB hq_; have HO_12112005 := n0_; have BK12101 := n1_; have BK12111 := n2_; have HB := n3_; clear n0_ n1_ n2_ n3_))) | ((with_reducible refine gate_dst (N := 63) rfl ?_); refine Kd.R_lit (Kd.int .i64) _ 3 ?hg (N := 63) ?hd (xs := ([(-1), 65535, 65536, a2] : List Int)) (inner := [.int .i64 (-1), .int .i64 65535, .int .i64 65536, .int .i64 a2]) (ok := fun _ => True) (okp := fun _ => True) ?hr ?hp (fun _ hk => hk) trivial (Below.refl _ _) (Nat.le_refl _) (by simp) ?_; (case hd => rfl); (case hg => rfl); (case hr => first | (go_simp; done) | (go_simp; rfl)); (case hp => exact (Reps.one (show Kd.M (Kd.int .i64) _ _ _ (-1) [.int .i64 (-1)] from rfl) (Reps.one (show Kd.M (Kd.int .i64) _ _ _ 65535 [.int .i64 65535] from rfl) (Reps.one (show Kd.M (Kd.int .i64) _ _ _ 65536 [.int .i64 65536] from rfl) (Reps.one (show Kd.M (Kd.int .i64) _ _ _ a2 [.int .i64 a2] from rfl) (Reps.none _ _)))))); intro v12129 w88 ho89 hb hg_ hnew_; clear hg_ hnew_; (first | rw [← Ny12128.out] at ho89 | (simp only [Int.reduceToNat] at ho89; rw [← Ny12128.out] at ho89)); have n0_ := Aside0.mk (Kd.R_elder' (by (with_reducible repeat (first | apply Kd.R_alloc | apply Kd.R_drewN | apply Kd.R_drew)); exact HO_12112005.out) (Kd.R_base ho89) hb); have n1_ := Aside0.mk (Kd.R_lower (Kd.R_new' ho89 (Kd.R_lt (by (with_reducible repeat (first | apply Kd.R_alloc | apply Kd.R_drewN | apply Kd.R_drew)); exact HO_12112005.out))) (below_size (by repeat (first | (with_reducible first | exact HB.out | apply below_alloc | apply pw_below_drewN | apply below_drew1 | refine below_set ?_ GE12101.out | refine below_set ?_ GE12111.out) | exact HB.out)))); have n2_ := Aside0.mk (blk_below (g := gb12101) (o := .cells #[.int .i64 a0_0, .int .i64 a0_1, .int .i64 a0_2, .int .i64 a0_3, .int .i64 a0_4, .slice A0_5 l0_5.length c0_5] 35 (0, 0)) (by (with_reducible repeat (first | refine blk_drewN ?_ _ | refine blk_drew ?_ | refine blk_alloc ?_ _)); exact BK12101.out) hb); have n3_ := Aside0.mk (blk_below (g := gb12111) (o := .cells #[.int .i64 t12103, .int .i64 t12104, .int .i64 t12105, .int .i64 t12106, .int .i64 t12107, .slice Ao19 t12108.length co19] 35 (0, 0)) (by (with_reducible repeat (first | refine blk_drewN ?_ _ | refine blk_drew ?_ | refine blk_alloc ?_ _)); exact BK12111.out) hb); have n4_ := Aside0.mk (below_step (by repeat (first | (with_reducible first | exact HB.out | apply below_alloc | apply pw_below_drewN | apply below_drew1 | refine below_set ?_ GE12101.out | refine below_set ?_ GE12111.out) | exact HB.out)) hb); clear HO_12112005; clear BK12101; clear BK12111; clear HB; have HO_12112005 := n0_; have HO12130 := n1_; have BK12101 := n2_; have BK12111 := n3_; have HB := n4_; clear n0_ n1_ n2_ n3_ n4_; clear hb ho89) | ((with_reducible refine gate_callee (f := 29) rfl ?_); refine goesL_ (some 65) rfl rfl Try.func29 (by kernel_rfl) rfl #[.int .i64 a2, .int .i64 4] rfl (by (try simp only [List.map_toArray, List.map_cons, List.map_nil]); first | done | rfl | (simp only [List.length_drop, List.length_take]; rfl)) ?_; (with_reducible refine (plaitinglaw3_within.calls a2 4 t12131 _ A83.out).mono ?_); rintro e w' ⟨rfl, ⟨nd, rfl⟩⟩; refine ⟨_, rfl, ?_⟩; (try (rw [drewN_self w88]; generalize hq_ : World.drewN w88 _ = w88; have n0_ : Aside0 (Kd.R (Kd.int .i64) 3 w88 w.heap.size (fun k_ => some k_ ≠ (.slice Ao19 t12108.length co19 : Value).ownBlock) v12129 y12128) := ⟨by rw [← hq_]; exact (by (with_reducible repeat (first | apply Kd.R_alloc | apply Kd.R_drewN | apply Kd.R_drew)); exact Kd.R_mono HO12130.out (fun _ hk => hk.2))⟩; have n1_ : Aside0 (Kd.R (Kd.int .i64) 3 w88 w.heap.size (fun k_ => some k_ ≠ (v12129 : Value).ownBlock) (.slice Ao19 t12108.length co19) t12108) := ⟨by rw [← hq_]; exact (by (with_reducible repeat (first | apply Kd.R_alloc | apply Kd.R_drewN | apply Kd.R_drew)); exact Kd.R_mono HO_12112005.out (fun _ hk => hk.2))⟩; have n2_ : Aside0 (w88.heap[gb12101]? = some (.cells #[.int .i64 a0_0, .int .i64 a0_1, .int .i64 a0_2, .int .i64 a0_3, .int .i64 a0_4, .slice A0_5 l0_5.length c0_5] 35 (0, 0))) := ⟨by rw [← hq_]; exact (by (with_reducible repeat (first | refine blk_drewN ?_ _ | refine blk_drew ?_ | refine blk_alloc ?_ _)); exact BK12101.out)⟩; have n3_ : Aside0 (w88.heap[gb12111]? = some (.cells #[.int .i64 t12103, .int .i64 t12104, .int .i64 t12105, .int .i64 t12106, .int .i64 t12107, .slice Ao19 t12108.length co19] 35 (0, 0))) := ⟨by rw [← hq_]; exact (by (with_reducible repeat (first | refine blk_drewN ?_ _ | refine blk_drew ?_ | refine blk_alloc ?_ _)); exact BK12111.out)⟩; have n4_ : Aside0 (Below w.heap.size w w88) := ⟨by rw [← hq_]; exact (by repeat (first | (with_reducible first | exact HB.out | apply below_alloc | apply pw_below_drewN | apply below_drew1 | refine below_set ?_ GE12101.out | refine below_set ?_ GE12111.out) | exact HB.out))⟩; clear HO12130 HO_12112005 BK12101 BK12111 HB hq_; have HO12130 := n0_; have HO_12112005 := n1_; have BK12101 := n2_; have BK12111 := n3_; have HB := n4_; clear n0_ n1_ n2_ n3_ n4_)); obtain ⟨Ao90, co90, eo90⟩ := Kd.R_slice HO12130.out; subst eo90; have p12132 : 0 ≤ (t12131 : Int) := of_decide_eq_true (by first | (with_reducible assumption) | assumption); have q12132 : t12131 < (y12128.length : Int) := of_decide_eq_true (by first | (with_reducible assumption) | assumption); obtain ⟨ad12132, e12132, hx12132_0⟩ := Kd.at_int (Kd.R_reads' HO12130.out).2.2 t12131 p12132 q12132; cases e12132; replace p12132 := eq_true p12132; replace q12132 := eq_true q12132; have hnb91 := NB12111_12101.out; have hnc91 := NB12101_12111.out; have hcz92_0 : w88.cell? ⟨gb12111, 0, none⟩ = some (.int .i64 t12103) := (blk_cell BK12111.out 0).trans rfl; have hcz92_1 : w88.cell? ⟨gb12111, 1, none⟩ = some (.int .i64 t12104) := (blk_cell BK12111.out 1).trans rfl; have hcz92_2 : w88.cell? ⟨gb12111, 2, none⟩ = some (.int .i64 t12105) := (blk_cell BK12111.out 2).trans rfl; have hcz92_3 : w88.cell? ⟨gb12111, 3, none⟩ = some (.int .i64 t12106) := (blk_cell BK12111.out 3).trans rfl; have hcz92_4 : w88.cell? ⟨gb12111, 4, none⟩ = some (.int .i64 t12107) := (blk_cell BK12111.out 4).trans rfl; have hcz92_5 : w88.cell? ⟨gb12111, 5, none⟩ = some (.slice Ao19 t12108.length co19) := (blk_cell BK12111.out 5).trans rfl; have hfz92_0 := blk_frozen BK12111.out 0; have hfz92_1 := blk_frozen BK12111.out 1; have hfz92_2 := blk_frozen BK12111.out 2; have hfz92_3 := blk_frozen BK12111.out 3; have hfz92_4 := blk_frozen BK12111.out 4; have hfz92_5 := blk_frozen BK12111.out 5))
              have n0_ : Aside0 (Kd.R (Kd.int .i64) 3 (w88.setCell ⟨gb12111, 4, none⟩ (.int .i64 (rd y12128 t12131))) w.heap.size (fun k_ => some k_ ≠ (.slice (some ad12132) y12128.length co90 : Value).ownBlock) (.slice Ao19 t12108.length co19) t12108) := ⟨by (with_reducible repeat (first | apply Kd.R_alloc | apply Kd.R_drewN | apply Kd.R_drew)); exact Kd.R_mono (Kd.R_far (p := ⟨gb12111, 4, none⟩) (Kd.R_types HO_12112005.out BK12111.out (by decide)) (fun _ hk => hk.2) (.int .i64 (rd y12128 t12131))) (fun _ hk => by first | exact hk.1.2 | exact hk.1)⟩
              have n1_ : Aside0 (Kd.R (Kd.int .i64) 3 (w88.setCell ⟨gb12111, 4, none⟩ (.int .i64 (rd y12128 t12131))) w.heap.size (fun k_ => some k_ ≠ (.slice Ao19 t12108.length co19 : Value).ownBlock) (.slice (some ad12132) y12128.length co90) y12128) := ⟨by (with_reducible repeat (first | apply Kd.R_alloc | apply Kd.R_drewN | apply Kd.R_drew)); exact Kd.R_mono (Kd.R_far (p := ⟨gb12111, 4, none⟩) (Kd.R_types HO12130.out BK12111.out (by decide)) (fun _ hk => hk.2) (.int .i64 (rd y12128 t12131))) (fun _ hk => by first | exact hk.1.2 | exact hk.1)⟩
              have n2_ : Aside0 ((w88.setCell ⟨gb12111, 4, none⟩ (.int .i64 (rd y12128 t12131))).heap[gb12101]? = some (.cells #[.int .i64 a0_0, .int .i64 a0_1, .int .i64 a0_2, .int .i64 a0_3, .int .i64 a0_4, .slice A0_5 l0_5.length c0_5] 35 (0, 0))) := ⟨by (with_reducible repeat (first | refine blk_drewN ?_ _ | refine blk_drew ?_ | refine blk_alloc ?_ _)); refine blk_far ?_ NB12101_12111.out _; (with_reducible repeat (first | refine blk_drewN ?_ _ | refine blk_drew ?_ | refine blk_alloc ?_ _)); exact BK12101.out⟩
              have n3_ : Aside0 ((w88.setCell ⟨gb12111, 4, none⟩ (.int .i64 (rd y12128 t12131))).heap[gb12111]? = some (.cells #[.int .i64 t12103, .int .i64 t12104, .int .i64 t12105, .int .i64 t12106, .int .i64 (rd y12128 t12131), .slice Ao19 t12108.length co19] 35 (0, 0))) := ⟨by (with_reducible repeat (first | refine blk_drewN ?_ _ | refine blk_drew ?_ | refine blk_alloc ?_ _)); refine blk_put (cs := #[.int .i64 t12103, .int .i64 t12104, .int .i64 t12105, .int .i64 t12106, .int .i64 t12107, .slice Ao19 t12108.length co19]) ?_ 4 _ rfl; (with_reducible repeat (first | refine blk_drewN ?_ _ | refine blk_drew ?_ | refine blk_alloc ?_ _)); exact BK12111.out⟩
              have n4_ : Aside0 (Below w.heap.size w (w88.setCell ⟨gb12111, 4, none⟩ (.int .i64 (rd y12128 t12131)))) := ⟨by repeat (first | (with_reducible first | exact HB.out | apply below_alloc | apply pw_below_drewN | apply below_drew1 | refine below_set ?_ GE12101.out | refine below_set ?_ GE12111.out) | exact HB.out)⟩
              (try clear HO_12112005)
              (try clear HO12130)
              (try clear BK12101)
              (try clear BK12111)
              (try clear HB)
              generalize (w88.setCell ⟨gb12111, 4, none⟩ (.int .i64 (rd y12128 t12131))) = w93 at n0_ n1_ n2_ n3_ n4_ ⊢
              have HO_12112005 := n0_
              have HO12130 := n1_
              have BK12101 := n2_
              have BK12111 := n3_
              have HB := n4_
              clear n0_ n1_ n2_ n3_ n4_
              have n0_ := Aside0.mk (Kd.R_drew HO_12112005.out)
              have n1_ := Aside0.mk (Kd.R_drew HO12130.out)
              have n2_ := Aside0.mk (blk_drew BK12101.out)
              have n3_ := Aside0.mk (blk_drew BK12111.out)
              have n4_ := Aside0.mk (below_drew1 HB.out)
              clear HO_12112005
              clear HO12130
              clear BK12101
              clear BK12111
              clear HB
              have HO_12112005 := n0_
              have HO12130 := n1_
              have BK12101 := n2_
              have BK12111 := n3_
              have HB := n4_
              clear n0_ n1_ n2_ n3_ n4_
              refine start_ (n := 6) (S := fun w' => w'.cell? ⟨gb12111, 0, none⟩ = some (.int .i64 t12103) ∧ w'.cell? ⟨gb12111, 1, none⟩ = some (.int .i64 t12104) ∧ w'.cell? ⟨gb12111, 2, none⟩ = some (.int .i64 t12105) ∧ w'.cell? ⟨gb12111, 3, none⟩ = some (.int .i64 t12106) ∧ w'.cell? ⟨gb12111, 4, none⟩ = some (.int .i64 (rd y12128 t12131)) ∧ w'.cell? ⟨gb12111, 5, none⟩ = some (.slice Ao19 t12108.length co19)) (ds := []) #[false, false, false, false, false, false] (by kernel_rfl) rfl rfl ⟨(blk_cell BK12111.out 0).trans rfl, (blk_cell BK12111.out 1).trans rfl, (blk_cell BK12111.out 2).trans rfl, (blk_cell BK12111.out 3).trans rfl, (blk_cell BK12111.out 4).trans rfl, (blk_cell BK12111.out 5).trans rfl⟩ (fun hHeld => ?_)
              generalize w93.drew = w94 at HO_12112005 HO12130 BK12101 BK12111 HB hHeld ⊢
              refine take_ (i := 0) (N := some 93) (v := ?_) (a' := ?_) #[true, false, false, false, false, false] rfl rfl (by kernel_rfl) (fun _ _ _ h => h) (Or.inl ⟨by rfl, ?_⟩) hHeld ?_ ?_
              rotate_left
              · rintro w' ⟨s0, s1, s2, s3, s4, s5⟩
                go_simp
                with_reducible rfl
              rotate_left
              · simp only [Act.put, List.setIfInBounds_toArray, List.set_cons_zero, List.set_cons_succ, i64_w, i32_w]
                rfl
              refine take_ (i := 2) (N := some 95) (v := ?_) (a' := ?_) #[true, false, true, false, false, false] rfl rfl (by kernel_rfl) (fun _ _ _ h => h) (Or.inl ⟨by rfl, ?_⟩) hHeld ?_ ?_
              rotate_left
              · rintro w' ⟨s0, s1, s2, s3, s4, s5⟩
                go_simp
                with_reducible rfl
              rotate_left
              · simp only [Act.put, List.setIfInBounds_toArray, List.set_cons_zero, List.set_cons_succ, i64_w, i32_w]
                rfl
              refine one_ (i := 1) (N := some 94) #[true, true, true, false, false, false] rfl rfl (by kernel_rfl) (by decide) (fun K hK => ?_)
              refine goes_ Try.func27 (by kernel_rfl) rfl #[.agg #[.int .i64 t12103, .int .i64 t12104, .int .i64 t12105, .int .i64 t12106, .int .i64 (rd y12128 t12131), .slice Ao19 t12108.length co19]] (by rfl) rfl rfl (by (try simp only [List.map_toArray, List.map_cons, List.map_nil]); first | done | rfl | (simp only [List.length_drop, List.length_take]; rfl)) ?_
              with_reducible refine (conf_Check.calls t12103 t12104 t12105 t12106 (rd y12128 t12131) _ _ t12108 t12133 _ ?side1 ?side2 A86.out).mono ?_
              (case side1 => repeat (first | exact (Kd.R_reads' HO_12112005.out).2.2 | (with_reducible refine Kd.C_alloc ?_ _) | (with_reducible refine Kd.C_drewN ?_ _) | (with_reducible refine Kd.C_drew ?_)))
              (case side2 => exact (Kd.R_reads' HO_12112005.out).2.1)
              rintro e w95 ⟨rfl, hb⟩
              refine ⟨_, rfl, ?_⟩
              have n0_ := Aside0.mk (Kd.R_below (by (with_reducible repeat (first | apply Kd.R_alloc | apply Kd.R_drewN | apply Kd.R_drew)); exact HO_12112005.out) hb)
              have n1_ := Aside0.mk (Kd.R_below (by (with_reducible repeat (first | apply Kd.R_alloc | apply Kd.R_drewN | apply Kd.R_drew)); exact HO12130.out) hb)
              have n2_ := Aside0.mk (blk_below (g := gb12101) (o := .cells #[.int .i64 a0_0, .int .i64 a0_1, .int .i64 a0_2, .int .i64 a0_3, .int .i64 a0_4, .slice A0_5 l0_5.length c0_5] 35 (0, 0)) (by (with_reducible repeat (first | refine blk_drewN ?_ _ | refine blk_drew ?_ | refine blk_alloc ?_ _)); exact BK12101.out) hb)
              have n3_ := Aside0.mk (blk_below (g := gb12111) (o := .cells #[.int .i64 t12103, .int .i64 t12104, .int .i64 t12105, .int .i64 t12106, .int .i64 (rd y12128 t12131), .slice Ao19 t12108.length co19] 35 (0, 0)) (by (with_reducible repeat (first | refine blk_drewN ?_ _ | refine blk_drew ?_ | refine blk_alloc ?_ _)); exact BK12111.out) hb)
              have n4_ := Aside0.mk (below_step (by repeat (first | (with_reducible first | exact HB.out | apply below_alloc | apply pw_below_drewN | apply below_drew1 | refine below_set ?_ GE12101.out | refine below_set ?_ GE12111.out) | exact HB.out)) hb)
              clear HO_12112005
              clear HO12130
              clear BK12101
              clear BK12111
              clear HB
              have HO_12112005 := n0_
              have HO12130 := n1_
              have BK12101 := n2_
              have BK12111 := n3_
              have HB := n4_
              clear n0_ n1_ n2_ n3_ n4_
              (try clear hb)
              (try clear hb2)
              (try clear hk)
              (try clear hi)
              refine hK.out _ _ ⟨(blk_cell BK12111.out 0).trans rfl, (blk_cell BK12111.out 1).trans rfl, (blk_cell BK12111.out 2).trans rfl, (blk_cell BK12111.out 3).trans rfl, (blk_cell BK12111.out 4).trans rfl, (blk_cell BK12111.out 5).trans rfl⟩ (fun hHeld => ?_)
              clear hK K
              refine norm_ (a' := ?_) ?_ ?_
              rotate_left
              · show Act.put _ (some 94) _ = _
                simp only [Act.put, List.setIfInBounds_toArray, List.set_cons_zero, List.set_cons_succ, i64_w, i32_w]
                rfl
              refine one_ (i := 3) (N := some 96) #[true, true, true, true, false, false] rfl rfl (by kernel_rfl) (by decide) (fun K hK => ?_)
              refine goes_ Try.func28 (by kernel_rfl) rfl #[.agg #[.int .i64 t12103, .int .i64 t12104, .int .i64 t12105, .int .i64 t12106, .int .i64 (rd y12128 t12131), .slice Ao19 t12108.length co19]] (by rfl) rfl rfl (by (try simp only [List.map_toArray, List.map_cons, List.map_nil]); first | done | rfl | (simp only [List.length_drop, List.length_take]; rfl)) ?_
              with_reducible refine (plaitingref3_Check.calls kj10 t12103 t12104 t12105 t12106 (rd y12128 t12131) _ _ t12108 t12134 _ ?side1 ?side2 A87.out).mono ?_
              (case side1 => repeat (first | exact (Kd.R_reads' HO_12112005.out).2.2 | (with_reducible refine Kd.C_alloc ?_ _) | (with_reducible refine Kd.C_drewN ?_ _) | (with_reducible refine Kd.C_drew ?_)))
              (case side2 => exact (Kd.R_reads' HO_12112005.out).2.1)
              rintro e w96 ⟨rfl, hb⟩
              refine ⟨_, rfl, ?_⟩
              have n0_ := Aside0.mk (Kd.R_below (by (with_reducible repeat (first | apply Kd.R_alloc | apply Kd.R_drewN | apply Kd.R_drew)); exact HO_12112005.out) hb)
              have n1_ := Aside0.mk (Kd.R_below (by (with_reducible repeat (first | apply Kd.R_alloc | apply Kd.R_drewN | apply Kd.R_drew)); exact HO12130.out) hb)
              have n2_ := Aside0.mk (blk_below (g := gb12101) (o := .cells #[.int .i64 a0_0, .int .i64 a0_1, .int .i64 a0_2, .int .i64 a0_3, .int .i64 a0_4, .slice A0_5 l0_5.length c0_5] 35 (0, 0)) (by (with_reducible repeat (first | refine blk_drewN ?_ _ | refine blk_drew ?_ | refine blk_alloc ?_ _)); exact BK12101.out) hb)
              have n3_ := Aside0.mk (blk_below (g := gb12111) (o := .cells #[.int .i64 t12103, .int .i64 t12104, .int .i64 t12105, .int .i64 t12106, .int .i64 (rd y12128 t12131), .slice Ao19 t12108.length co19] 35 (0, 0)) (by (with_reducible repeat (first | refine blk_drewN ?_ _ | refine blk_drew ?_ | refine blk_alloc ?_ _)); exact BK12111.out) hb)
              have n4_ := Aside0.mk (below_step (by repeat (first | (with_reducible first | exact HB.out | apply below_alloc | apply pw_below_drewN | apply below_drew1 | refine below_set ?_ GE12101.out | refine below_set ?_ GE12111.out) | exact HB.out)) hb)
              clear HO_12112005
              clear HO12130
              clear BK12101
              clear BK12111
              clear HB
              have HO_12112005 := n0_
              have HO12130 := n1_
              have BK12101 := n2_
              have BK12111 := n3_
              have HB := n4_
              clear n0_ n1_ n2_ n3_ n4_
              (try clear hb)
              (try clear hb2)
              (try clear hk)
              (try clear hi)
              refine hK.out _ _ ⟨(blk_cell BK12111.out 0).trans rfl, (blk_cell BK12111.out 1).trans rfl, (blk_cell BK12111.out 2).trans rfl, (blk_cell BK12111.out 3).trans rfl, (blk_cell BK12111.out 4).trans rfl, (blk_cell BK12111.out 5).trans rfl⟩ (fun hHeld => ?_)
              clear hK K
              refine norm_ (a' := ?_) ?_ ?_
              rotate_left
              · show Act.put _ (some 96) _ = _
                simp only [Act.put, List.setIfInBounds_toArray, List.set_cons_zero, List.set_cons_succ, i64_w, i32_w]
                rfl
              refine pure_ (i := 4) (N := some 97) (v := ?_) (a' := ?_) #[true, true, true, true, true, false] rfl rfl (by kernel_rfl) (fun _ _ _ h => h) (Or.inl ⟨by rfl, ?_⟩) ?_ ?_
              rotate_left
              · intro w'
                go_simp
                with_reducible rfl
              rotate_left
              · simp only [Act.put, List.setIfInBounds_toArray, List.set_cons_zero, List.set_cons_succ, i64_w, i32_w]
                rfl
              refine pure_ (i := 5) (N := some 6) (v := ?_) (a' := ?_) #[true, true, true, true, true, true] rfl rfl (by kernel_rfl) (fun _ _ _ h => h) (Or.inl ⟨by rfl, ?_⟩) ?_ ?_
              rotate_left
              · intro w'
                go_simp
                with_reducible rfl
              rotate_left
              · simp only [Act.put, List.setIfInBounds_toArray, List.set_cons_zero, List.set_cons_succ, i64_w, i32_w]
                rfl
              refine done_ (by kernel_rfl) ?_
              try go_wp2
              go_ret
              exact ⟨by first | rfl | (simp [errW_none, errW_some] <;> rfl) | (simp [*, errW_none, errW_some] <;> rfl), by repeat (first | (with_reducible first | exact HB.out | apply below_alloc | apply pw_below_drewN | apply below_drew1 | refine below_set ?_ GE12101.out | refine below_set ?_ GE12111.out) | exact HB.out)⟩
            rw [if_neg c85] at H
            exact absurd H (by simp)
          rw [if_neg c84] at H
          exact absurd H (by simp)
        rw [if_neg c82] at H
        have c82b0 : (t12115 == 5) = false := beq_eq_false_iff_ne.mpr c82
        have c82b1 : (t12115 != 5) = true := bne_iff_ne.mpr c82
        by_cases c97 : t12115 = 6
        · rw [if_pos c97] at H
          have c97b0 : (t12115 == 6) = true := beq_iff_eq.mpr c97
          have c97b1 : (t12115 != 6) = false := bne_eq_false_iff_eq.mpr c97
          clear c97
          obtain ⟨y12135, hy12135⟩ : ∃ y_ : List Int, y_ = (([] : List Int)) := ⟨_, rfl⟩
          replace H : (if y12135.length + t12108.length < 17592186044416 then ((some (y12135 ++ t12108 : List Int)).bind fun y12138 => ((some (([0, 0] : List Int) : List Int)).bind fun y12141 => (if y12138.length + y12141.length < 17592186044416 then ((some (y12138 ++ y12141 : List Int)).bind fun y12144 => ((conf_Check.f t12103 t12104 t12105 t12106 t12107 y12144).bind fun t12147 => ((plaitingref3_Check.f kj10 t12103 t12104 t12105 t12106 t12107 y12144).bind fun t12148 => (some (t12147 == t12148))))) else (none)))) else (none)) = some r := by first | (rw [hy12135]; with_reducible exact H) | (have H2_ := (Option.bind_some _ _).symm.trans H; rw [hy12135]; with_reducible exact H2_) | (have H2_ := (Option.bind_some _ _).symm.trans H; with_reducible exact H2_) | with_reducible exact H | (rw [hy12135]; exact H) | exact H
          have Ny12135 := Aside0.mk hy12135
          clear hy12135
          by_cases c98 : y12135.length + t12108.length < 17592186044416
          · rw [if_pos c98] at H
            have LMc98 := Aside0.mk c98
            clear c98
            obtain ⟨y12138, hy12138⟩ : ∃ y_ : List Int, y_ = (y12135 ++ t12108) := ⟨_, rfl⟩
            replace H : ((some (([0, 0] : List Int) : List Int)).bind fun y12141 => (if y12138.length + y12141.length < 17592186044416 then ((some (y12138 ++ y12141 : List Int)).bind fun y12144 => ((conf_Check.f t12103 t12104 t12105 t12106 t12107 y12144).bind fun t12147 => ((plaitingref3_Check.f kj10 t12103 t12104 t12105 t12106 t12107 y12144).bind fun t12148 => (some (t12147 == t12148))))) else (none))) = some r := by first | (rw [hy12138]; with_reducible exact H) | (have H2_ := (Option.bind_some _ _).symm.trans H; rw [hy12138]; with_reducible exact H2_) | (have H2_ := (Option.bind_some _ _).symm.trans H; with_reducible exact H2_) | with_reducible exact H | (rw [hy12138]; exact H) | exact H
            have Ny12138 := Aside0.mk hy12138
            clear hy12138
            obtain ⟨y12141, hy12141⟩ : ∃ y_ : List Int, y_ = (([0, 0] : List Int)) := ⟨_, rfl⟩
            replace H : (if y12138.length + y12141.length < 17592186044416 then ((some (y12138 ++ y12141 : List Int)).bind fun y12144 => ((conf_Check.f t12103 t12104 t12105 t12106 t12107 y12144).bind fun t12147 => ((plaitingref3_Check.f kj10 t12103 t12104 t12105 t12106 t12107 y12144).bind fun t12148 => (some (t12147 == t12148))))) else (none)) = some r := by first | (rw [hy12141]; with_reducible exact H) | (have H2_ := (Option.bind_some _ _).symm.trans H; rw [hy12141]; with_reducible exact H2_) | (have H2_ := (Option.bind_some _ _).symm.trans H; with_reducible exact H2_) | with_reducible exact H | (rw [hy12141]; exact H) | exact H
            have Ny12141 := Aside0.mk hy12141
            clear hy12141
            by_cases c99 : y12138.length + y12141.length < 17592186044416
            · rw [if_pos c99] at H
              have LMc99 := Aside0.mk c99
              clear c99
              obtain ⟨y12144, hy12144⟩ : ∃ y_ : List Int, y_ = (y12138 ++ y12141) := ⟨_, rfl⟩
              replace H : ((conf_Check.f t12103 t12104 t12105 t12106 t12107 y12144).bind fun t12147 => ((plaitingref3_Check.f kj10 t12103 t12104 t12105 t12106 t12107 y12144).bind fun t12148 => (some (t12147 == t12148)))) = some r := by first | (rw [hy12144]; with_reducible exact H) | (have H2_ := (Option.bind_some _ _).symm.trans H; rw [hy12144]; with_reducible exact H2_) | (have H2_ := (Option.bind_some _ _).symm.trans H; with_reducible exact H2_) | with_reducible exact H | (rw [hy12144]; exact H) | exact H
              have Ny12144 := Aside0.mk hy12144
              clear hy12144
              replace H := Option.bind_eq_some_iff.mp H
              obtain ⟨t12147, A1000, H⟩ := H
              replace H : ((plaitingref3_Check.f kj10 t12103 t12104 t12105 t12106 t12107 y12144).bind fun t12148 => (some (t12147 == t12148))) = some r := H
              have A100 := Aside0.mk A1000
              clear A1000
              replace H := Option.bind_eq_some_iff.mp H
              obtain ⟨t12148, A1010, H⟩ := H
              replace H : (some (t12147 == t12148)) = some r := H
              have A101 := Aside0.mk A1010
              clear A1010
              obtain rfl := Option.some.inj H
              try go_wp2_with (first | ((with_reducible refine gate_callee (f := 29) rfl ?_); refine goesL_ (some 27) rfl rfl Try.func29 (by kernel_rfl) rfl #[.int .i64 a1, .int .i64 8] rfl (by (try simp only [List.map_toArray, List.map_cons, List.map_nil]); first | done | rfl | (simp only [List.length_drop, List.length_take]; rfl)) ?_; (with_reducible refine (plaitinglaw3_within.calls a1 8 t12115 _ A34.out).mono ?_); rintro e w' ⟨rfl, ⟨nd, rfl⟩⟩; refine ⟨_, rfl, ?_⟩; (try (rw [drewN_self wc]; generalize hq_ : World.drewN wc _ = wc; have n0_ : Aside0 (Kd.R (Kd.int .i64) 3 wc w.heap.size (fun _ => True) (.slice Ao19 t12108.length co19) t12108) := ⟨by rw [← hq_]; exact (by (with_reducible repeat (first | apply Kd.R_alloc | apply Kd.R_drewN | apply Kd.R_drew)); exact HO_12112005.out)⟩; have n1_ : Aside0 (wc.heap[gb12101]? = some (.cells #[.int .i64 a0_0, .int .i64 a0_1, .int .i64 a0_2, .int .i64 a0_3, .int .i64 a0_4, .slice A0_5 l0_5.length c0_5] 35 (0, 0))) := ⟨by rw [← hq_]; exact (by (with_reducible repeat (first | refine blk_drewN ?_ _ | refine blk_drew ?_ | refine blk_alloc ?_ _)); exact BK12101.out)⟩; have n2_ : Aside0 (wc.heap[gb12111]? = some (.cells #[.int .i64 t12103, .int .i64 t12104, .int .i64 t12105, .int .i64 t12106, .int .i64 t12107, .slice Ao19 t12108.length co19] 35 (0, 0))) := ⟨by rw [← hq_]; exact (by (with_reducible repeat (first | refine blk_drewN ?_ _ | refine blk_drew ?_ | refine blk_alloc ?_ _)); exact BK12111.out)⟩; have n3_ : Aside0 (Below w.heap.size w wc) := ⟨by rw [← hq_]; exact (by repeat (first | (with_reducible first | exact HB.out | apply below_alloc | apply pw_below_drewN | apply below_drew1 | refine below_set ?_ GE12101.out | refine below_set ?_ GE12111.out) | exact HB.out))⟩; clear HO_12112005 BK12101 BK12111 HB hq_; have HO_12112005 := n0_; have BK12101 := n1_; have BK12111 := n2_; have HB := n3_; clear n0_ n1_ n2_ n3_))) | ((with_reducible refine gate_dst (N := 71) rfl ?_); refine Kd.R_lit (Kd.int .i64) _ 3 ?hg (N := 71) ?hd (xs := ([] : List Int)) (inner := []) (ok := fun _ => True) (okp := fun _ => True) ?hr ?hp (fun _ hk => hk) trivial (Below.refl _ _) (Nat.le_refl _) (by simp) ?_; (case hd => rfl); (case hg => rfl); (case hr => first | (go_simp; done) | (go_simp; rfl)); (case hp => exact (Reps.none _ _)); intro v12136 w102 ho103 hb hg_ hnew_; clear hg_ hnew_; (first | rw [← Ny12135.out] at ho103 | (simp only [Int.reduceToNat] at ho103; rw [← Ny12135.out] at ho103)); have n0_ := Aside0.mk (Kd.R_elder' (by (with_reducible repeat (first | apply Kd.R_alloc | apply Kd.R_drewN | apply Kd.R_drew)); exact HO_12112005.out) (Kd.R_base ho103) hb); have n1_ := Aside0.mk (Kd.R_lower (Kd.R_new' ho103 (Kd.R_lt (by (with_reducible repeat (first | apply Kd.R_alloc | apply Kd.R_drewN | apply Kd.R_drew)); exact HO_12112005.out))) (below_size (by repeat (first | (with_reducible first | exact HB.out | apply below_alloc | apply pw_below_drewN | apply below_drew1 | refine below_set ?_ GE12101.out | refine below_set ?_ GE12111.out) | exact HB.out)))); have n2_ := Aside0.mk (blk_below (g := gb12101) (o := .cells #[.int .i64 a0_0, .int .i64 a0_1, .int .i64 a0_2, .int .i64 a0_3, .int .i64 a0_4, .slice A0_5 l0_5.length c0_5] 35 (0, 0)) (by (with_reducible repeat (first | refine blk_drewN ?_ _ | refine blk_drew ?_ | refine blk_alloc ?_ _)); exact BK12101.out) hb); have n3_ := Aside0.mk (blk_below (g := gb12111) (o := .cells #[.int .i64 t12103, .int .i64 t12104, .int .i64 t12105, .int .i64 t12106, .int .i64 t12107, .slice Ao19 t12108.length co19] 35 (0, 0)) (by (with_reducible repeat (first | refine blk_drewN ?_ _ | refine blk_drew ?_ | refine blk_alloc ?_ _)); exact BK12111.out) hb); have n4_ := Aside0.mk (below_step (by repeat (first | (with_reducible first | exact HB.out | apply below_alloc | apply pw_below_drewN | apply below_drew1 | refine below_set ?_ GE12101.out | refine below_set ?_ GE12111.out) | exact HB.out)) hb); clear HO_12112005; clear BK12101; clear BK12111; clear HB; have HO_12112005 := n0_; have HO12137 := n1_; have BK12101 := n2_; have BK12111 := n3_; have HB := n4_; clear n0_ n1_ n2_ n3_ n4_; clear hb ho103; have hnb104 := NB12111_12101.out; have hnc104 := NB12101_12111.out; have hcz105_0 : w102.cell? ⟨gb12111, 0, none⟩ = some (.int .i64 t12103) := (blk_cell BK12111.out 0).trans rfl; have hcz105_1 : w102.cell? ⟨gb12111, 1, none⟩ = some (.int .i64 t12104) := (blk_cell BK12111.out 1).trans rfl; have hcz105_2 : w102.cell? ⟨gb12111, 2, none⟩ = some (.int .i64 t12105) := (blk_cell BK12111.out 2).trans rfl; have hcz105_3 : w102.cell? ⟨gb12111, 3, none⟩ = some (.int .i64 t12106) := (blk_cell BK12111.out 3).trans rfl; have hcz105_4 : w102.cell? ⟨gb12111, 4, none⟩ = some (.int .i64 t12107) := (blk_cell BK12111.out 4).trans rfl; have hcz105_5 : w102.cell? ⟨gb12111, 5, none⟩ = some (.slice Ao19 t12108.length co19) := (blk_cell BK12111.out 5).trans rfl; have hfz105_0 := blk_frozen BK12111.out 0; have hfz105_1 := blk_frozen BK12111.out 1; have hfz105_2 := blk_frozen BK12111.out 2; have hfz105_3 := blk_frozen BK12111.out 3; have hfz105_4 := blk_frozen BK12111.out 4; have hfz105_5 := blk_frozen BK12111.out 5) | ((with_reducible refine gate_builtin (b := .append) (xs := #[.tmp 71, .tmp 73]) rfl ?_); at_builtin; refine Kd.R_append_rows (Kd.int .i64) (w0 := w) w.heap.size rfl (.tmp 71) (.tmp 73) 33 3 (.int .i64 0) 8 rfl Try.underlying33 info3 rfl (by decide) (by omega) v12136 y12135 t12108 _ _ _ (fun k_ => some k_ ≠ (.slice Ao19 t12108.length co19 : Value).ownBlock) (fun _ => False) rfl rfl ?aO ?aR (fun _ _ h => h) (fun _ h => h.elim) ?aF ?aB ?aS ?aL ?_; (case aR => repeat (first | exact (Kd.R_reads' HO_12112005.out).2.2 | (with_reducible refine Kd.C_alloc ?_ _) | (with_reducible refine Kd.C_drewN ?_ _) | (with_reducible refine Kd.C_drew ?_))); (case aB => exact (by repeat (first | (with_reducible first | exact HB.out | apply below_alloc | apply pw_below_drewN | apply below_drew1 | refine below_set ?_ GE12101.out | refine below_set ?_ GE12111.out) | exact HB.out))); (case aF => exact (fun k_ hk => Kd.fresh' (Kd.R_lt (by (with_reducible repeat (first | apply Kd.R_alloc | apply Kd.R_drewN | apply Kd.R_drew)); exact HO_12112005.out)) k_ hk)); (case aO => exact (by (with_reducible repeat (first | apply Kd.R_alloc | apply Kd.R_drewN | apply Kd.R_drew)); exact Kd.R_mono HO12137.out (fun _ hk => hk.2))); (case aS => exact (below_size (by repeat (first | (with_reducible first | exact HB.out | apply below_alloc | apply pw_below_drewN | apply below_drew1 | refine below_set ?_ GE12101.out | refine below_set ?_ GE12111.out) | exact HB.out)))); (case aL => have := LMc98.out; omega); intro v12139 w106 ho hb hg hat; rw [← Ny12138.out] at ho; have n0_ := Aside0.mk (Kd.R_after (ok := (fun _ => True)) (by (with_reducible repeat (first | apply Kd.R_alloc | apply Kd.R_drewN | apply Kd.R_drew)); exact HO_12112005.out) hg hat); have n1_ := Aside0.mk (blk_grown (g := gb12101) (o := .cells #[.int .i64 a0_0, .int .i64 a0_1, .int .i64 a0_2, .int .i64 a0_3, .int .i64 a0_4, .slice A0_5 l0_5.length c0_5] 35 (0, 0)) (by (with_reducible repeat (first | refine blk_drewN ?_ _ | refine blk_drew ?_ | refine blk_alloc ?_ _)); exact BK12101.out) hg (Kd.R_ne HO12137.out BK12101.out (by decide))); have n2_ := Aside0.mk (blk_grown (g := gb12111) (o := .cells #[.int .i64 t12103, .int .i64 t12104, .int .i64 t12105, .int .i64 t12106, .int .i64 t12107, .slice Ao19 t12108.length co19] 35 (0, 0)) (by (with_reducible repeat (first | refine blk_drewN ?_ _ | refine blk_drew ?_ | refine blk_alloc ?_ _)); exact BK12111.out) hg (Kd.R_ne HO12137.out BK12111.out (by decide))); have n3_ := Aside0.mk (hb); have n4_ := Aside0.mk (ho); clear HO_12112005; clear BK12101; clear BK12111; clear HB; clear HO12137; have HO_12112005 := n0_; have BK12101 := n1_; have BK12111 := n2_; have HB := n3_; have HO12140 := n4_; clear n0_ n1_ n2_ n3_ n4_; clear ho hb hg hat) | ((with_reducible refine gate_dst (N := 75) rfl ?_); refine Kd.R_lit (Kd.int .i64) _ 3 ?hg (N := 75) ?hd (xs := ([0, 0] : List Int)) (inner := [.int .i64 0, .int .i64 0]) (ok := fun _ => True) (okp := fun _ => True) ?hr ?hp (fun _ hk => hk) trivial (Below.refl _ _) (Nat.le_refl _) (by simp) ?_; (case hd => rfl); (case hg => rfl); (case hr => first | (go_simp; done) | (go_simp; rfl)); (case hp => exact (Reps.one (show Kd.M (Kd.int .i64) _ _ _ 0 [.int .i64 0] from rfl) (Reps.one (show Kd.M (Kd.int .i64) _ _ _ 0 [.int .i64 0] from rfl) (Reps.none _ _)))); intro v12142 w107 ho108 hb hg_ hnew_; clear hg_ hnew_; (first | rw [← Ny12141.out] at ho108 | (simp only [Int.reduceToNat] at ho108; rw [← Ny12141.out] at ho108)); have n0_ := Aside0.mk (Kd.R_elder' (by (with_reducible repeat (first | apply Kd.R_alloc | apply Kd.R_drewN | apply Kd.R_drew)); exact HO_12112005.out) (Kd.R_base ho108) hb); have n1_ := Aside0.mk (Kd.R_elder' (by (with_reducible repeat (first | apply Kd.R_alloc | apply Kd.R_drewN | apply Kd.R_drew)); exact HO12140.out) (Kd.R_base ho108) hb); have n2_ := Aside0.mk (Kd.R_lower (Kd.R_new' (Kd.R_new' ho108 (Kd.R_lt (by (with_reducible repeat (first | apply Kd.R_alloc | apply Kd.R_drewN | apply Kd.R_drew)); exact HO_12112005.out))) (Kd.R_lt (by (with_reducible repeat (first | apply Kd.R_alloc | apply Kd.R_drewN | apply Kd.R_drew)); exact HO12140.out))) (below_size (by repeat (first | (with_reducible first | exact HB.out | apply below_alloc | apply pw_below_drewN | apply below_drew1 | refine below_set ?_ GE12101.out | refine below_set ?_ GE12111.out) | exact HB.out)))); have n3_ := Aside0.mk (blk_below (g := gb12101) (o := .cells #[.int .i64 a0_0, .int .i64 a0_1, .int .i64 a0_2, .int .i64 a0_3, .int .i64 a0_4, .slice A0_5 l0_5.length c0_5] 35 (0, 0)) (by (with_reducible repeat (first | refine blk_drewN ?_ _ | refine blk_drew ?_ | refine blk_alloc ?_ _)); exact BK12101.out) hb); have n4_ := Aside0.mk (blk_below (g := gb12111) (o := .cells #[.int .i64 t12103, .int .i64 t12104, .int .i64 t12105, .int .i64 t12106, .int .i64 t12107, .slice Ao19 t12108.length co19] 35 (0, 0)) (by (with_reducible repeat (first | refine blk_drewN ?_ _ | refine blk_drew ?_ | refine blk_alloc ?_ _)); exact BK12111.out) hb); have n5_ := Aside0.mk (below_step (by repeat (first | (with_reducible first | exact HB.out | apply below_alloc | apply pw_below_drewN | apply below_drew1 | refine below_set ?_ GE12101.out | refine below_set ?_ GE12111.out) | exact HB.out)) hb); clear HO_12112005; clear HO12140; clear BK12101; clear BK12111; clear HB; have HO_12112005 := n0_; have HO12140 := n1_; have HO12143 := n2_; have BK12101 := n3_; have BK12111 := n4_; have HB := n5_; clear n0_ n1_ n2_ n3_ n4_ n5_; clear hb ho108; obtain ⟨Ao110, co110, eo110⟩ := Kd.R_slice HO12143.out; subst eo110) | ((with_reducible refine gate_builtin (b := .append) (xs := #[.tmp 74, .tmp 75]) rfl ?_); at_builtin; refine Kd.R_append_rows (Kd.int .i64) (w0 := w) w.heap.size rfl (.tmp 74) (.tmp 75) 33 3 (.int .i64 0) 8 rfl Try.underlying33 info3 rfl (by decide) (by omega) v12139 y12138 y12141 _ _ _ (fun k_ => some k_ ≠ (.slice Ao19 t12108.length co19 : Value).ownBlock ∧ some k_ ≠ (.slice Ao110 y12141.length co110 : Value).ownBlock) (fun _ => False) rfl rfl ?aO ?aR (fun _ _ h => h) (fun _ h => h.elim) ?aF ?aB ?aS ?aL ?_; (case aR => repeat (first | exact (Kd.R_reads' HO12143.out).2.2 | (with_reducible refine Kd.C_alloc ?_ _) | (with_reducible refine Kd.C_drewN ?_ _) | (with_reducible refine Kd.C_drew ?_))); (case aB => exact (by repeat (first | (with_reducible first | exact HB.out | apply below_alloc | apply pw_below_drewN | apply below_drew1 | refine below_set ?_ GE12101.out | refine below_set ?_ GE12111.out) | exact HB.out))); (case aF => exact (fun k_ hk => ⟨Kd.fresh' (Kd.R_lt (by (with_reducible repeat (first | apply Kd.R_alloc | apply Kd.R_drewN | apply Kd.R_drew)); exact HO_12112005.out)) k_ hk, Kd.fresh' (Kd.R_lt (by (with_reducible repeat (first | apply Kd.R_alloc | apply Kd.R_drewN | apply Kd.R_drew)); exact HO12143.out)) k_ hk⟩)); (case aO => exact (by (with_reducible repeat (first | apply Kd.R_alloc | apply Kd.R_drewN | apply Kd.R_drew)); exact HO12140.out)); (case aS => exact (below_size (by repeat (first | (with_reducible first | exact HB.out | apply below_alloc | apply pw_below_drewN | apply below_drew1 | refine below_set ?_ GE12101.out | refine below_set ?_ GE12111.out) | exact HB.out)))); (case aL => have := LMc99.out; omega); intro v12145 w109 ho hb hg hat; rw [← Ny12144.out] at ho; have n0_ := Aside0.mk (Kd.R_after (ok := (fun k_ => some k_ ≠ (.slice Ao110 y12141.length co110 : Value).ownBlock)) (by (with_reducible repeat (first | apply Kd.R_alloc | apply Kd.R_drewN | apply Kd.R_drew)); exact Kd.R_mono HO_12112005.out (fun _ hk => ⟨hk.2, hk.1.2⟩)) hg hat); have n1_ := Aside0.mk (blk_grown (g := gb12101) (o := .cells #[.int .i64 a0_0, .int .i64 a0_1, .int .i64 a0_2, .int .i64 a0_3, .int .i64 a0_4, .slice A0_5 l0_5.length c0_5] 35 (0, 0)) (by (with_reducible repeat (first | refine blk_drewN ?_ _ | refine blk_drew ?_ | refine blk_alloc ?_ _)); exact BK12101.out) hg (Kd.R_ne HO12140.out BK12101.out (by decide))); have n2_ := Aside0.mk (blk_grown (g := gb12111) (o := .cells #[.int .i64 t12103, .int .i64 t12104, .int .i64 t12105, .int .i64 t12106, .int .i64 t12107, .slice Ao19 t12108.length co19] 35 (0, 0)) (by (with_reducible repeat (first | refine blk_drewN ?_ _ | refine blk_drew ?_ | refine blk_alloc ?_ _)); exact BK12111.out) hg (Kd.R_ne HO12140.out BK12111.out (by decide))); have n3_ := Aside0.mk (Kd.R_after (ok := (fun k_ => some k_ ≠ (.slice Ao19 t12108.length co19 : Value).ownBlock)) (by (with_reducible repeat (first | apply Kd.R_alloc | apply Kd.R_drewN | apply Kd.R_drew)); exact Kd.R_mono HO12143.out (fun _ hk => ⟨hk.1.2, hk.2⟩)) hg hat); have n4_ := Aside0.mk (hb); have n5_ := Aside0.mk (ho); clear HO_12112005; clear BK12101; clear BK12111; clear HO12143; clear HB; clear HO12140; have HO_12112005 := n0_; have BK12101 := n1_; have BK12111 := n2_; have HO12143 := n3_; have HB := n4_; have HO12146 := n5_; clear n0_ n1_ n2_ n3_ n4_ n5_; clear ho hb hg hat; obtain ⟨Ao111, co111, eo111⟩ := Kd.R_slice HO12146.out; subst eo111; have hcz112_0 : w109.cell? ⟨gb12111, 0, none⟩ = some (.int .i64 t12103) := (blk_cell BK12111.out 0).trans rfl; have hcz112_1 : w109.cell? ⟨gb12111, 1, none⟩ = some (.int .i64 t12104) := (blk_cell BK12111.out 1).trans rfl; have hcz112_2 : w109.cell? ⟨gb12111, 2, none⟩ = some (.int .i64 t12105) := (blk_cell BK12111.out 2).trans rfl; have hcz112_3 : w109.cell? ⟨gb12111, 3, none⟩ = some (.int .i64 t12106) := (blk_cell BK12111.out 3).trans rfl; have hcz112_4 : w109.cell? ⟨gb12111, 4, none⟩ = some (.int .i64 t12107) := (blk_cell BK12111.out 4).trans rfl; have hcz112_5 : w109.cell? ⟨gb12111, 5, none⟩ = some (.slice Ao19 t12108.length co19) := (blk_cell BK12111.out 5).trans rfl; have hfz112_0 := blk_frozen BK12111.out 0; have hfz112_1 := blk_frozen BK12111.out 1; have hfz112_2 := blk_frozen BK12111.out 2; have hfz112_3 := blk_frozen BK12111.out 3; have hfz112_4 := blk_frozen BK12111.out 4; have hfz112_5 := blk_frozen BK12111.out 5))
              have n0_ : Aside0 (Kd.R (Kd.int .i64) 3 (w109.setCell ⟨gb12111, 5, none⟩ (.slice Ao111 y12144.length co111)) w.heap.size (fun k_ => some k_ ≠ (.slice Ao110 y12141.length co110 : Value).ownBlock ∧ some k_ ≠ (.slice Ao111 y12144.length co111 : Value).ownBlock) (.slice Ao19 t12108.length co19) t12108) := ⟨by (with_reducible repeat (first | apply Kd.R_alloc | apply Kd.R_drewN | apply Kd.R_drew)); exact Kd.R_mono (Kd.R_far (p := ⟨gb12111, 5, none⟩) (Kd.R_types HO_12112005.out BK12111.out (by decide)) (fun _ hk => hk.2) (.slice Ao111 y12144.length co111)) (fun _ hk => ⟨hk.1.1, hk.1.2⟩)⟩
              have n1_ : Aside0 (Kd.R (Kd.int .i64) 3 (w109.setCell ⟨gb12111, 5, none⟩ (.slice Ao111 y12144.length co111)) w.heap.size (fun k_ => some k_ ≠ (.slice Ao19 t12108.length co19 : Value).ownBlock ∧ some k_ ≠ (.slice Ao111 y12144.length co111 : Value).ownBlock) (.slice Ao110 y12141.length co110) y12141) := ⟨by (with_reducible repeat (first | apply Kd.R_alloc | apply Kd.R_drewN | apply Kd.R_drew)); exact Kd.R_mono (Kd.R_far (p := ⟨gb12111, 5, none⟩) (Kd.R_types HO12143.out BK12111.out (by decide)) (fun _ hk => hk.2) (.slice Ao111 y12144.length co111)) (fun _ hk => ⟨hk.1.1, hk.1.2⟩)⟩
              have n2_ : Aside0 (Kd.R (Kd.int .i64) 3 (w109.setCell ⟨gb12111, 5, none⟩ (.slice Ao111 y12144.length co111)) w.heap.size (fun k_ => some k_ ≠ (.slice Ao19 t12108.length co19 : Value).ownBlock ∧ some k_ ≠ (.slice Ao110 y12141.length co110 : Value).ownBlock) (.slice Ao111 y12144.length co111) y12144) := ⟨by (with_reducible repeat (first | apply Kd.R_alloc | apply Kd.R_drewN | apply Kd.R_drew)); exact Kd.R_mono (Kd.R_far (p := ⟨gb12111, 5, none⟩) (Kd.R_types HO12146.out BK12111.out (by decide)) (fun _ hk => hk.2) (.slice Ao111 y12144.length co111)) (fun _ hk => ⟨hk.1.1, hk.1.2⟩)⟩
              have n3_ : Aside0 ((w109.setCell ⟨gb12111, 5, none⟩ (.slice Ao111 y12144.length co111)).heap[gb12101]? = some (.cells #[.int .i64 a0_0, .int .i64 a0_1, .int .i64 a0_2, .int .i64 a0_3, .int .i64 a0_4, .slice A0_5 l0_5.length c0_5] 35 (0, 0))) := ⟨by (with_reducible repeat (first | refine blk_drewN ?_ _ | refine blk_drew ?_ | refine blk_alloc ?_ _)); refine blk_far ?_ NB12101_12111.out _; (with_reducible repeat (first | refine blk_drewN ?_ _ | refine blk_drew ?_ | refine blk_alloc ?_ _)); exact BK12101.out⟩
              have n4_ : Aside0 ((w109.setCell ⟨gb12111, 5, none⟩ (.slice Ao111 y12144.length co111)).heap[gb12111]? = some (.cells #[.int .i64 t12103, .int .i64 t12104, .int .i64 t12105, .int .i64 t12106, .int .i64 t12107, .slice Ao111 y12144.length co111] 35 (0, 0))) := ⟨by (with_reducible repeat (first | refine blk_drewN ?_ _ | refine blk_drew ?_ | refine blk_alloc ?_ _)); refine blk_put (cs := #[.int .i64 t12103, .int .i64 t12104, .int .i64 t12105, .int .i64 t12106, .int .i64 t12107, .slice Ao19 t12108.length co19]) ?_ 5 _ rfl; (with_reducible repeat (first | refine blk_drewN ?_ _ | refine blk_drew ?_ | refine blk_alloc ?_ _)); exact BK12111.out⟩
              have n5_ : Aside0 (Below w.heap.size w (w109.setCell ⟨gb12111, 5, none⟩ (.slice Ao111 y12144.length co111))) := ⟨by repeat (first | (with_reducible first | exact HB.out | apply below_alloc | apply pw_below_drewN | apply below_drew1 | refine below_set ?_ GE12101.out | refine below_set ?_ GE12111.out) | exact HB.out)⟩
              (try clear HO_12112005)
              (try clear HO12143)
              (try clear HO12146)
              (try clear BK12101)
              (try clear BK12111)
              (try clear HB)
              generalize (w109.setCell ⟨gb12111, 5, none⟩ (.slice Ao111 y12144.length co111)) = w113 at n0_ n1_ n2_ n3_ n4_ n5_ ⊢
              have HO_12112005 := n0_
              have HO12143 := n1_
              have HO12146 := n2_
              have BK12101 := n3_
              have BK12111 := n4_
              have HB := n5_
              clear n0_ n1_ n2_ n3_ n4_ n5_
              have n0_ := Aside0.mk (Kd.R_drew HO_12112005.out)
              have n1_ := Aside0.mk (Kd.R_drew HO12143.out)
              have n2_ := Aside0.mk (Kd.R_drew HO12146.out)
              have n3_ := Aside0.mk (blk_drew BK12101.out)
              have n4_ := Aside0.mk (blk_drew BK12111.out)
              have n5_ := Aside0.mk (below_drew1 HB.out)
              clear HO_12112005
              clear HO12143
              clear HO12146
              clear BK12101
              clear BK12111
              clear HB
              have HO_12112005 := n0_
              have HO12143 := n1_
              have HO12146 := n2_
              have BK12101 := n3_
              have BK12111 := n4_
              have HB := n5_
              clear n0_ n1_ n2_ n3_ n4_ n5_
              refine start_ (n := 6) (S := fun w' => w'.cell? ⟨gb12111, 0, none⟩ = some (.int .i64 t12103) ∧ w'.cell? ⟨gb12111, 1, none⟩ = some (.int .i64 t12104) ∧ w'.cell? ⟨gb12111, 2, none⟩ = some (.int .i64 t12105) ∧ w'.cell? ⟨gb12111, 3, none⟩ = some (.int .i64 t12106) ∧ w'.cell? ⟨gb12111, 4, none⟩ = some (.int .i64 t12107) ∧ w'.cell? ⟨gb12111, 5, none⟩ = some (.slice Ao111 y12144.length co111)) (ds := []) #[false, false, false, false, false, false] (by kernel_rfl) rfl rfl ⟨(blk_cell BK12111.out 0).trans rfl, (blk_cell BK12111.out 1).trans rfl, (blk_cell BK12111.out 2).trans rfl, (blk_cell BK12111.out 3).trans rfl, (blk_cell BK12111.out 4).trans rfl, (blk_cell BK12111.out 5).trans rfl⟩ (fun hHeld => ?_)
              generalize w113.drew = w114 at HO_12112005 HO12143 HO12146 BK12101 BK12111 HB hHeld ⊢
              refine take_ (i := 0) (N := some 93) (v := ?_) (a' := ?_) #[true, false, false, false, false, false] rfl rfl (by kernel_rfl) (fun _ _ _ h => h) (Or.inl ⟨by rfl, ?_⟩) hHeld ?_ ?_
              rotate_left
              · rintro w' ⟨s0, s1, s2, s3, s4, s5⟩
                go_simp
                with_reducible rfl
              rotate_left
              · simp only [Act.put, List.setIfInBounds_toArray, List.set_cons_zero, List.set_cons_succ, i64_w, i32_w]
                rfl
              refine take_ (i := 2) (N := some 95) (v := ?_) (a' := ?_) #[true, false, true, false, false, false] rfl rfl (by kernel_rfl) (fun _ _ _ h => h) (Or.inl ⟨by rfl, ?_⟩) hHeld ?_ ?_
              rotate_left
              · rintro w' ⟨s0, s1, s2, s3, s4, s5⟩
                go_simp
                with_reducible rfl
              rotate_left
              · simp only [Act.put, List.setIfInBounds_toArray, List.set_cons_zero, List.set_cons_succ, i64_w, i32_w]
                rfl
              refine one_ (i := 1) (N := some 94) #[true, true, true, false, false, false] rfl rfl (by kernel_rfl) (by decide) (fun K hK => ?_)
              refine goes_ Try.func27 (by kernel_rfl) rfl #[.agg #[.int .i64 t12103, .int .i64 t12104, .int .i64 t12105, .int .i64 t12106, .int .i64 t12107, .slice Ao111 y12144.length co111]] (by rfl) rfl rfl (by (try simp only [List.map_toArray, List.map_cons, List.map_nil]); first | done | rfl | (simp only [List.length_drop, List.length_take]; rfl)) ?_
              with_reducible refine (conf_Check.calls t12103 t12104 t12105 t12106 t12107 _ _ y12144 t12147 _ ?side1 ?side2 A100.out).mono ?_
              (case side1 => repeat (first | exact (Kd.R_reads' HO12146.out).2.2 | (with_reducible refine Kd.C_alloc ?_ _) | (with_reducible refine Kd.C_drewN ?_ _) | (with_reducible refine Kd.C_drew ?_)))
              (case side2 => exact (Kd.R_reads' HO12146.out).2.1)
              rintro e w115 ⟨rfl, hb⟩
              refine ⟨_, rfl, ?_⟩
              have n0_ := Aside0.mk (Kd.R_below (by (with_reducible repeat (first | apply Kd.R_alloc | apply Kd.R_drewN | apply Kd.R_drew)); exact HO_12112005.out) hb)
              have n1_ := Aside0.mk (Kd.R_below (by (with_reducible repeat (first | apply Kd.R_alloc | apply Kd.R_drewN | apply Kd.R_drew)); exact HO12143.out) hb)
              have n2_ := Aside0.mk (Kd.R_below (by (with_reducible repeat (first | apply Kd.R_alloc | apply Kd.R_drewN | apply Kd.R_drew)); exact HO12146.out) hb)
              have n3_ := Aside0.mk (blk_below (g := gb12101) (o := .cells #[.int .i64 a0_0, .int .i64 a0_1, .int .i64 a0_2, .int .i64 a0_3, .int .i64 a0_4, .slice A0_5 l0_5.length c0_5] 35 (0, 0)) (by (with_reducible repeat (first | refine blk_drewN ?_ _ | refine blk_drew ?_ | refine blk_alloc ?_ _)); exact BK12101.out) hb)
              have n4_ := Aside0.mk (blk_below (g := gb12111) (o := .cells #[.int .i64 t12103, .int .i64 t12104, .int .i64 t12105, .int .i64 t12106, .int .i64 t12107, .slice Ao111 y12144.length co111] 35 (0, 0)) (by (with_reducible repeat (first | refine blk_drewN ?_ _ | refine blk_drew ?_ | refine blk_alloc ?_ _)); exact BK12111.out) hb)
              have n5_ := Aside0.mk (below_step (by repeat (first | (with_reducible first | exact HB.out | apply below_alloc | apply pw_below_drewN | apply below_drew1 | refine below_set ?_ GE12101.out | refine below_set ?_ GE12111.out) | exact HB.out)) hb)
              clear HO_12112005
              clear HO12143
              clear HO12146
              clear BK12101
              clear BK12111
              clear HB
              have HO_12112005 := n0_
              have HO12143 := n1_
              have HO12146 := n2_
              have BK12101 := n3_
              have BK12111 := n4_
              have HB := n5_
              clear n0_ n1_ n2_ n3_ n4_ n5_
              (try clear hb)
              (try clear hb2)
              (try clear hk)
              (try clear hi)
              refine hK.out _ _ ⟨(blk_cell BK12111.out 0).trans rfl, (blk_cell BK12111.out 1).trans rfl, (blk_cell BK12111.out 2).trans rfl, (blk_cell BK12111.out 3).trans rfl, (blk_cell BK12111.out 4).trans rfl, (blk_cell BK12111.out 5).trans rfl⟩ (fun hHeld => ?_)
              clear hK K
              refine norm_ (a' := ?_) ?_ ?_
              rotate_left
              · show Act.put _ (some 94) _ = _
                simp only [Act.put, List.setIfInBounds_toArray, List.set_cons_zero, List.set_cons_succ, i64_w, i32_w]
                rfl
              refine one_ (i := 3) (N := some 96) #[true, true, true, true, false, false] rfl rfl (by kernel_rfl) (by decide) (fun K hK => ?_)
              refine goes_ Try.func28 (by kernel_rfl) rfl #[.agg #[.int .i64 t12103, .int .i64 t12104, .int .i64 t12105, .int .i64 t12106, .int .i64 t12107, .slice Ao111 y12144.length co111]] (by rfl) rfl rfl (by (try simp only [List.map_toArray, List.map_cons, List.map_nil]); first | done | rfl | (simp only [List.length_drop, List.length_take]; rfl)) ?_
              with_reducible refine (plaitingref3_Check.calls kj10 t12103 t12104 t12105 t12106 t12107 _ _ y12144 t12148 _ ?side1 ?side2 A101.out).mono ?_
              (case side1 => repeat (first | exact (Kd.R_reads' HO12146.out).2.2 | (with_reducible refine Kd.C_alloc ?_ _) | (with_reducible refine Kd.C_drewN ?_ _) | (with_reducible refine Kd.C_drew ?_)))
              (case side2 => exact (Kd.R_reads' HO12146.out).2.1)
              rintro e w116 ⟨rfl, hb⟩
              refine ⟨_, rfl, ?_⟩
              have n0_ := Aside0.mk (Kd.R_below (by (with_reducible repeat (first | apply Kd.R_alloc | apply Kd.R_drewN | apply Kd.R_drew)); exact HO_12112005.out) hb)
              have n1_ := Aside0.mk (Kd.R_below (by (with_reducible repeat (first | apply Kd.R_alloc | apply Kd.R_drewN | apply Kd.R_drew)); exact HO12143.out) hb)
              have n2_ := Aside0.mk (Kd.R_below (by (with_reducible repeat (first | apply Kd.R_alloc | apply Kd.R_drewN | apply Kd.R_drew)); exact HO12146.out) hb)
              have n3_ := Aside0.mk (blk_below (g := gb12101) (o := .cells #[.int .i64 a0_0, .int .i64 a0_1, .int .i64 a0_2, .int .i64 a0_3, .int .i64 a0_4, .slice A0_5 l0_5.length c0_5] 35 (0, 0)) (by (with_reducible repeat (first | refine blk_drewN ?_ _ | refine blk_drew ?_ | refine blk_alloc ?_ _)); exact BK12101.out) hb)
              have n4_ := Aside0.mk (blk_below (g := gb12111) (o := .cells #[.int .i64 t12103, .int .i64 t12104, .int .i64 t12105, .int .i64 t12106, .int .i64 t12107, .slice Ao111 y12144.length co111] 35 (0, 0)) (by (with_reducible repeat (first | refine blk_drewN ?_ _ | refine blk_drew ?_ | refine blk_alloc ?_ _)); exact BK12111.out) hb)
              have n5_ := Aside0.mk (below_step (by repeat (first | (with_reducible first | exact HB.out | apply below_alloc | apply pw_below_drewN | apply below_drew1 | refine below_set ?_ GE12101.out | refine below_set ?_ GE12111.out) | exact HB.out)) hb)
              clear HO_12112005
              clear HO12143
              clear HO12146
              clear BK12101
              clear BK12111
              clear HB
              have HO_12112005 := n0_
              have HO12143 := n1_
              have HO12146 := n2_
              have BK12101 := n3_
              have BK12111 := n4_
              have HB := n5_
              clear n0_ n1_ n2_ n3_ n4_ n5_
              (try clear hb)
              (try clear hb2)
              (try clear hk)
              (try clear hi)
              refine hK.out _ _ ⟨(blk_cell BK12111.out 0).trans rfl, (blk_cell BK12111.out 1).trans rfl, (blk_cell BK12111.out 2).trans rfl, (blk_cell BK12111.out 3).trans rfl, (blk_cell BK12111.out 4).trans rfl, (blk_cell BK12111.out 5).trans rfl⟩ (fun hHeld => ?_)
              clear hK K
              refine norm_ (a' := ?_) ?_ ?_
              rotate_left
              · show Act.put _ (some 96) _ = _
                simp only [Act.put, List.setIfInBounds_toArray, List.set_cons_zero, List.set_cons_succ, i64_w, i32_w]
                rfl
              refine pure_ (i := 4) (N := some 97) (v := ?_) (a' := ?_) #[true, true, true, true, true, false] rfl rfl (by kernel_rfl) (fun _ _ _ h => h) (Or.inl ⟨by rfl, ?_⟩) ?_ ?_
              rotate_left
              · intro w'
                go_simp
                with_reducible rfl
              rotate_left
              · simp only [Act.put, List.setIfInBounds_toArray, List.set_cons_zero, List.set_cons_succ, i64_w, i32_w]
                rfl
              refine pure_ (i := 5) (N := some 6) (v := ?_) (a' := ?_) #[true, true, true, true, true, true] rfl rfl (by kernel_rfl) (fun _ _ _ h => h) (Or.inl ⟨by rfl, ?_⟩) ?_ ?_
              rotate_left
              · intro w'
                go_simp
                with_reducible rfl
              rotate_left
              · simp only [Act.put, List.setIfInBounds_toArray, List.set_cons_zero, List.set_cons_succ, i64_w, i32_w]
                rfl
              refine done_ (by kernel_rfl) ?_
              try go_wp2
              go_ret
              exact ⟨by first | rfl | (simp [errW_none, errW_some] <;> rfl) | (simp [*, errW_none, errW_some] <;> rfl), by repeat (first | (with_reducible first | exact HB.out | apply below_alloc | apply pw_below_drewN | apply below_drew1 | refine below_set ?_ GE12101.out | refine below_set ?_ GE12111.out) | exact HB.out)⟩
            rw [if_neg c99] at H
            exact absurd H (by simp)
          rw [if_neg c98] at H
          exact absurd H (by simp)
        rw [if_neg c97] at H
        have c97b0 : (t12115 == 6) = false := beq_eq_false_iff_ne.mpr c97
        have c97b1 : (t12115 != 6) = true := bne_iff_ne.mpr c97
        by_cases c117 : t12115 = 7
        · rw [if_pos c117] at H
          have c117b0 : (t12115 == 7) = true := beq_iff_eq.mpr c117
          have c117b1 : (t12115 != 7) = false := bne_eq_false_iff_eq.mpr c117
          clear c117
          obtain ⟨y12149, hy12149⟩ : ∃ y_ : List Int, y_ = (([(-2), t12103, wrap64 (t12103 - 1), a2] : List Int)) := ⟨_, rfl⟩
          replace H : ((plaitinglaw3_within.f a2 4).bind fun t12152 => (if 0 ≤ t12152 then (if t12152 < (y12149.length : Int) then ((some (([0, rd y12149 t12152] : List Int) : List Int)).bind fun y12154 => ((conf_Check.f t12103 t12104 t12105 t12106 t12107 y12154).bind fun t12157 => ((plaitingref3_Check.f kj10 t12103 t12104 t12105 t12106 t12107 y12154).bind fun t12158 => (some (t12157 == t12158))))) else (none)) else (none))) = some r := by first | (rw [hy12149]; with_reducible exact H) | (have H2_ := (Option.bind_some _ _).symm.trans H; rw [hy12149]; with_reducible exact H2_) | (have H2_ := (Option.bind_some _ _).symm.trans H; with_reducible exact H2_) | with_reducible exact H | (rw [hy12149]; exact H) | exact H
          have Ny12149 := Aside0.mk hy12149
          clear hy12149
          replace H := Option.bind_eq_some_iff.mp H
          obtain ⟨t12152, A1180, H⟩ := H
          replace H : (if 0 ≤ t12152 then (if t12152 < (y12149.length : Int) then ((some (([0, rd y12149 t12152] : List Int) : List Int)).bind fun y12154 => ((conf_Check.f t12103 t12104 t12105 t12106 t12107 y12154).bind fun t12157 => ((plaitingref3_Check.f kj10 t12103 t12104 t12105 t12106 t12107 y12154).bind fun t12158 => (some (t12157 == t12158))))) else (none)) else (none)) = some r := H
          have A118 := Aside0.mk A1180
          clear A1180
          by_cases c119 : 0 ≤ t12152
          · rw [if_pos c119] at H
            have c119b0 : decide (0 ≤ t12152) = true := decide_eq_true c119
            clear c119
            by_cases c120 : t12152 < (y12149.length : Int)
            · rw [if_pos c120] at H
              have c120b0 : decide (t12152 < (y12149.length : Int)) = true := decide_eq_true c120
              clear c120
              obtain ⟨y12154, hy12154⟩ : ∃ y_ : List Int, y_ = (([0, rd y12149 t12152] : List Int)) := ⟨_, rfl⟩
              replace H : ((conf_Check.f t12103 t12104 t12105 t12106 t12107 y12154).bind fun t12157 => ((plaitingref3_Check.f kj10 t12103 t12104 t12105 t12106 t12107 y12154).bind fun t12158 => (some (t12157 == t12158)))) = some r := by first | (rw [hy12154]; with_reducible exact H) | (have H2_ := (Option.bind_some _ _).symm.trans H; rw [hy12154]; with_reducible exact H2_) | (have H2_ := (Option.bind_some _ _).symm.trans H; with_reducible exact H2_) | with_reducible exact H | (rw [hy12154]; exact H) | exact H
              have Ny12154 := Aside0.mk hy12154
              clear hy12154
              replace H := Option.bind_eq_some_iff.mp H
              obtain ⟨t12157, A1210, H⟩ := H
              replace H : ((plaitingref3_Check.f kj10 t12103 t12104 t12105 t12106 t12107 y12154).bind fun t12158 => (some (t12157 == t12158))) = some r := H
              have A121 := Aside0.mk A1210
              clear A1210
              replace H := Option.bind_eq_some_iff.mp H
              obtain ⟨t12158, A1220, H⟩ := H
              replace H : (some (t12157 == t12158)) = some r := H
              have A122 := Aside0.mk A1220
              clear A1220
              obtain rfl := Option.some.inj H
              try go_wp2_with (first | ((with_reducible refine gate_callee (f := 29) rfl ?_); refine goesL_ (some 27) rfl rfl Try.func29 (by kernel_rfl) rfl #[.int .i64 a1, .int .i64 8] rfl (by (try simp only [List.map_toArray, List.map_cons, List.map_nil]); first | done | rfl | (simp only [List.length_drop, List.length_take]; rfl)) ?_; (with_reducible refine (plaitinglaw3_within.calls a1 8 t12115 _ A34.out).mono ?_); rintro e w' ⟨rfl, ⟨nd, rfl⟩⟩; refine ⟨_, rfl, ?_⟩; (try (rw [drewN_self wc]; generalize hq_ : World.drewN wc _ = wc; have n0_ : Aside0 (Kd.R (Kd.int .i64) 3 wc w.heap.size (fun _ => True) (.slice Ao19 t12108.length co19) t12108) := ⟨by rw [← hq_]; exact (by (with_reducible repeat (first | apply Kd.R_alloc | apply Kd.R_drewN | apply Kd.R_drew)); exact HO_12112005.out)⟩; have n1_ : Aside0 (wc.heap[gb12101]? = some (.cells #[.int .i64 a0_0, .int .i64 a0_1, .int .i64 a0_2, .int .i64 a0_3, .int .i64 a0_4, .slice A0_5 l0_5.length c0_5] 35 (0, 0))) := ⟨by rw [← hq_]; exact (by (with_reducible repeat (first | refine blk_drewN ?_ _ | refine blk_drew ?_ | refine blk_alloc ?_ _)); exact BK12101.out)⟩; have n2_ : Aside0 (wc.heap[gb12111]? = some (.cells #[.int .i64 t12103, .int .i64 t12104, .int .i64 t12105, .int .i64 t12106, .int .i64 t12107, .slice Ao19 t12108.length co19] 35 (0, 0))) := ⟨by rw [← hq_]; exact (by (with_reducible repeat (first | refine blk_drewN ?_ _ | refine blk_drew ?_ | refine blk_alloc ?_ _)); exact BK12111.out)⟩; have n3_ : Aside0 (Below w.heap.size w wc) := ⟨by rw [← hq_]; exact (by repeat (first | (with_reducible first | exact HB.out | apply below_alloc | apply pw_below_drewN | apply below_drew1 | refine below_set ?_ GE12101.out | refine below_set ?_ GE12111.out) | exact HB.out))⟩; clear HO_12112005 BK12101 BK12111 HB hq_; have HO_12112005 := n0_; have BK12101 := n1_; have BK12111 := n2_; have HB := n3_; clear n0_ n1_ n2_ n3_))))
              have pi12153 : (0 ≤ (t12152 : Int)) = True := eq_true (of_decide_eq_true (by first | (with_reducible assumption) | assumption))
              have qi12153 : (t12152 < (y12149.length : Int)) = True := eq_true (of_decide_eq_true (by first | (with_reducible assumption) | assumption))
              have n0_ := Aside0.mk (Kd.R_drew HO_12112005.out)
              have n1_ := Aside0.mk (blk_drew BK12101.out)
              have n2_ := Aside0.mk (blk_drew BK12111.out)
              have n3_ := Aside0.mk (below_drew1 HB.out)
              clear HO_12112005
              clear BK12101
              clear BK12111
              clear HB
              have HO_12112005 := n0_
              have BK12101 := n1_
              have BK12111 := n2_
              have HB := n3_
              clear n0_ n1_ n2_ n3_
              refine start_ (n := 14) (S := fun w' => w'.cell? ⟨gb12111, 0, none⟩ = some (.int .i64 t12103) ∧ w'.cell? ⟨gb12111, 1, none⟩ = some (.int .i64 t12104) ∧ w'.cell? ⟨gb12111, 2, none⟩ = some (.int .i64 t12105) ∧ w'.cell? ⟨gb12111, 3, none⟩ = some (.int .i64 t12106) ∧ w'.cell? ⟨gb12111, 4, none⟩ = some (.int .i64 t12107) ∧ w'.cell? ⟨gb12111, 5, none⟩ = some (.slice Ao19 t12108.length co19)) (ds := [13]) #[false, false, false, false, false, false, false, false, false, false, false, false, false, false] (by kernel_rfl) rfl rfl ⟨(blk_cell BK12111.out 0).trans rfl, (blk_cell BK12111.out 1).trans rfl, (blk_cell BK12111.out 2).trans rfl, (blk_cell BK12111.out 3).trans rfl, (blk_cell BK12111.out 4).trans rfl, (blk_cell BK12111.out 5).trans rfl⟩ (fun hHeld => ?_); refine with_tabW plaitinglaw3_ConfChecks.tab24 plaitinglaw3_ConfChecks.bits24 (fun HT_ HW_ => ?_)
              generalize wc.drew = w123 at HO_12112005 BK12101 BK12111 HB hHeld ⊢
              refine pure_ (i := 0) (N := some 80) (v := ?_) (a' := ?_) #[true, false, false, false, false, false, false, false, false, false, false, false, false, false] rfl rfl (any_of HT_.out (by kernel_rfl)) (fun _ _ _ h => h) (Or.inl ⟨by rfl, ?_⟩) ?_ ?_
              rotate_left
              · intro w'
                go_simp
                with_reducible rfl
              rotate_left
              · simp only [Act.put, List.setIfInBounds_toArray, List.set_cons_zero, List.set_cons_succ, i64_w, i32_w]
                rfl
              refine pure_ (i := 2) (N := some 82) (v := ?_) (a' := ?_) #[true, false, true, false, false, false, false, false, false, false, false, false, false, false] rfl rfl (any_of HT_.out (by kernel_rfl)) (fun _ _ _ h => h) (Or.inl ⟨by rfl, ?_⟩) ?_ ?_
              rotate_left
              · intro w'
                go_simp
                with_reducible rfl
              rotate_left
              · simp only [Act.put, List.setIfInBounds_toArray, List.set_cons_zero, List.set_cons_succ, i64_w, i32_w]
                rfl
              refine pure_ (i := 5) (N := some 85) (v := ?_) (a' := ?_) #[true, false, true, false, false, true, false, false, false, false, false, false, false, false] rfl rfl (any_of HT_.out (by kernel_rfl)) (fun _ _ _ h => h) (Or.inl ⟨by rfl, ?_⟩) ?_ ?_
              rotate_left
              · intro w'
                go_simp
                with_reducible rfl
              rotate_left
              · simp only [Act.put, List.setIfInBounds_toArray, List.set_cons_zero, List.set_cons_succ, i64_w, i32_w]
                rfl
              refine pure_ (i := 7) (N := some 87) (v := ?_) (a' := ?_) #[true, false, true, false, false, true, false, true, false, false, false, false, false, false] rfl rfl (any_of HT_.out (by kernel_rfl)) (fun _ _ _ h => h) (Or.inl ⟨by rfl, ?_⟩) ?_ ?_
              rotate_left
              · intro w'
                go_simp
                with_reducible rfl
              rotate_left
              · simp only [Act.put, List.setIfInBounds_toArray, List.set_cons_zero, List.set_cons_succ, i64_w, i32_w]
                rfl
              refine take_ (i := 1) (N := some 81) (v := ?_) (a' := ?_) #[true, true, true, false, false, true, false, true, false, false, false, false, false, false] rfl rfl (take_ofW HT_.out HW_.out (by kernel_rfl)) (fun _ _ _ h => h) (Or.inl ⟨by rfl, ?_⟩) hHeld ?_ ?_
              rotate_left
              · rintro w' ⟨s0, s1, s2, s3, s4, s5⟩
                go_simp
                with_reducible rfl
              rotate_left
              · simp only [Act.put, List.setIfInBounds_toArray, List.set_cons_zero, List.set_cons_succ, i64_w, i32_w]
                rfl
              refine take_ (i := 3) (N := some 83) (v := ?_) (a' := ?_) #[true, true, true, true, false, true, false, true, false, false, false, false, false, false] rfl rfl (take_ofW HT_.out HW_.out (by kernel_rfl)) (fun _ _ _ h => h) (Or.inl ⟨by rfl, ?_⟩) hHeld ?_ ?_
              rotate_left
              · rintro w' ⟨s0, s1, s2, s3, s4, s5⟩
                go_simp
                with_reducible rfl
              rotate_left
              · simp only [Act.put, List.setIfInBounds_toArray, List.set_cons_zero, List.set_cons_succ, i64_w, i32_w]
                rfl
              refine pure_ (i := 4) (N := some 84) (v := ?_) (a' := ?_) #[true, true, true, true, true, true, false, true, false, false, false, false, false, false] rfl rfl (any_of HT_.out (by kernel_rfl)) (fun _ _ _ h => h) (Or.inl ⟨by rfl, ?_⟩) ?_ ?_
              rotate_left
              · intro w'
                go_simp
                with_reducible rfl
              rotate_left
              · simp only [Act.put, List.setIfInBounds_toArray, List.set_cons_zero, List.set_cons_succ, i64_w, i32_w]
                rfl
              refine join_ (σ := Value × Addr) 5 #[true, true, true, true, true, true, true, true, true, false, false, false, false, false] (fun s_ => [(86, s_.1), (88, .int .i64 t12152)]) (fun s_ w' => (w'.cell? ⟨gb12111, 0, none⟩ = some (.int .i64 t12103) ∧ w'.cell? ⟨gb12111, 1, none⟩ = some (.int .i64 t12104) ∧ w'.cell? ⟨gb12111, 2, none⟩ = some (.int .i64 t12105) ∧ w'.cell? ⟨gb12111, 3, none⟩ = some (.int .i64 t12106) ∧ w'.cell? ⟨gb12111, 4, none⟩ = some (.int .i64 t12107) ∧ w'.cell? ⟨gb12111, 5, none⟩ = some (.slice Ao19 t12108.length co19)) ∧ (Kd.R (Kd.int .i64) 3 w' w.heap.size (fun k_ => some k_ ≠ (.slice Ao19 t12108.length co19 : Value).ownBlock) s_.1 y12149) ∧ (Kd.R (Kd.int .i64) 3 w' w.heap.size (fun k_ => some k_ ≠ (s_.1 : Value).ownBlock) (.slice Ao19 t12108.length co19) t12108) ∧ (∃ c_, (s_.1 : Value) = .slice (some s_.2) y12149.length c_) ∧ (w'.heap[gb12101]? = some (.cells #[.int .i64 a0_0, .int .i64 a0_1, .int .i64 a0_2, .int .i64 a0_3, .int .i64 a0_4, .slice A0_5 l0_5.length c0_5] 35 (0, 0))) ∧ (w'.heap[gb12111]? = some (.cells #[.int .i64 t12103, .int .i64 t12104, .int .i64 t12105, .int .i64 t12106, .int .i64 t12107, .slice Ao19 t12108.length co19] 35 (0, 0))) ∧ (Below w.heap.size w w')) ?_ ?_
              rotate_left
              · intro hCont
                refine two_ (i := 6) (j := 8) (Ni := some 86) (Nj := some 88) #[true, true, true, true, true, true, true, true, false, false, false, false, false, false] #[true, true, true, true, true, true, false, true, true, false, false, false, false, false] rfl rfl rfl rfl (two_of HT_.out (by kernel_rfl)) (by decide) (by decide) (fun K hK => ?_) (fun K hK => ?_)
                · skip
                  refine Kd.R_lit_step (Kd.int .i64) _ 3 ?hg (N := 86) ?hd (xs := ([(-2), t12103, wrap64 (t12103 - 1), a2] : List Int)) (inner := [.int .i64 (-2), .int .i64 t12103, .int .i64 (wrap64 (t12103 - 1)), .int .i64 a2]) (ok := fun _ => True) (okp := fun _ => True) ?hr ?hp (fun _ hk => hk) trivial (Below.refl _ _) (Nat.le_refl _) (by simp) ?_; (case hd => rfl); (case hg => rfl); (case hr => first | (go_simp; done) | (go_simp; rfl)); (case hp => exact (Reps.one (show Kd.M (Kd.int .i64) _ _ _ (-2) [.int .i64 (-2)] from rfl) (Reps.one (show Kd.M (Kd.int .i64) _ _ _ t12103 [.int .i64 t12103] from rfl) (Reps.one (show Kd.M (Kd.int .i64) _ _ _ (wrap64 (t12103 - 1)) [.int .i64 (wrap64 (t12103 - 1))] from rfl) (Reps.one (show Kd.M (Kd.int .i64) _ _ _ a2 [.int .i64 a2] from rfl) (Reps.none _ _))))))
                  intro v12150 w124 ho125 hb hg_ hnew_
                  clear hg_ hnew_
                  (first | rw [← Ny12149.out] at ho125 | (simp only [Int.reduceToNat] at ho125; rw [← Ny12149.out] at ho125))
                  have n0_ := Aside0.mk (Kd.R_elder' (by (with_reducible repeat (first | apply Kd.R_alloc | apply Kd.R_drewN | apply Kd.R_drew)); exact HO_12112005.out) (Kd.R_base ho125) hb)
                  have n1_ := Aside0.mk (Kd.R_lower (Kd.R_new' ho125 (Kd.R_lt (by (with_reducible repeat (first | apply Kd.R_alloc | apply Kd.R_drewN | apply Kd.R_drew)); exact HO_12112005.out))) (below_size (by repeat (first | (with_reducible first | exact HB.out | apply below_alloc | apply pw_below_drewN | apply below_drew1 | refine below_set ?_ GE12101.out | refine below_set ?_ GE12111.out) | exact HB.out))))
                  have n2_ := Aside0.mk (blk_below (g := gb12101) (o := .cells #[.int .i64 a0_0, .int .i64 a0_1, .int .i64 a0_2, .int .i64 a0_3, .int .i64 a0_4, .slice A0_5 l0_5.length c0_5] 35 (0, 0)) (by (with_reducible repeat (first | refine blk_drewN ?_ _ | refine blk_drew ?_ | refine blk_alloc ?_ _)); exact BK12101.out) hb)
                  have n3_ := Aside0.mk (blk_below (g := gb12111) (o := .cells #[.int .i64 t12103, .int .i64 t12104, .int .i64 t12105, .int .i64 t12106, .int .i64 t12107, .slice Ao19 t12108.length co19] 35 (0, 0)) (by (with_reducible repeat (first | refine blk_drewN ?_ _ | refine blk_drew ?_ | refine blk_alloc ?_ _)); exact BK12111.out) hb)
                  have n4_ := Aside0.mk (below_step (by repeat (first | (with_reducible first | exact HB.out | apply below_alloc | apply pw_below_drewN | apply below_drew1 | refine below_set ?_ GE12101.out | refine below_set ?_ GE12111.out) | exact HB.out)) hb)
                  clear HO_12112005
                  clear BK12101
                  clear BK12111
                  clear HB
                  have HO_12112005 := n0_
                  have HO12151 := n1_
                  have BK12101 := n2_
                  have BK12111 := n3_
                  have HB := n4_
                  clear n0_ n1_ n2_ n3_ n4_
                  clear hb ho125
                  obtain ⟨Ao126, co126, eo126⟩ := Kd.R_slice HO12151.out
                  subst eo126
                  obtain ⟨ado126, fo126, _⟩ := Kd.at_int (Kd.R_reads' HO12151.out).2.2 0 (by decide) (by rw [Ny12149.out]; simp)
                  cases fo126
                  refine hK.out _ _ ⟨(blk_cell BK12111.out 0).trans rfl, (blk_cell BK12111.out 1).trans rfl, (blk_cell BK12111.out 2).trans rfl, (blk_cell BK12111.out 3).trans rfl, (blk_cell BK12111.out 4).trans rfl, (blk_cell BK12111.out 5).trans rfl⟩ (fun hHeld => ?_)
                  clear hK K
                  refine norm_ (a' := ?_) ?_ ?_
                  rotate_left
                  · show Act.put _ (some 86) _ = _
                    simp only [Act.put, List.setIfInBounds_toArray, List.set_cons_zero, List.set_cons_succ, i64_w, i32_w]
                    rfl
                  refine one_ (i := 8) (N := some 88) #[true, true, true, true, true, true, true, true, true, false, false, false, false, false] rfl rfl (one_of HT_.out (by kernel_rfl)) (by decide) (fun K hK => ?_)
                  refine goes_ Try.func29 (by kernel_rfl) rfl #[.int .i64 a2, .int .i64 4] (by rfl) rfl rfl (by (try simp only [List.map_toArray, List.map_cons, List.map_nil]); first | done | rfl | (simp only [List.length_drop, List.length_take]; rfl)) ?_
                  with_reducible refine (plaitinglaw3_within.calls a2 4 t12152 _ A118.out).mono ?_
                  rintro e w' ⟨rfl, ⟨nd, rfl⟩⟩
                  refine ⟨_, rfl, ?_⟩
                  refine hK.out _ _ ⟨(blk_cell BK12111.out 0).trans rfl, (blk_cell BK12111.out 1).trans rfl, (blk_cell BK12111.out 2).trans rfl, (blk_cell BK12111.out 3).trans rfl, (blk_cell BK12111.out 4).trans rfl, (blk_cell BK12111.out 5).trans rfl⟩ (fun hHeld => ?_)
                  clear hK K
                  refine norm_ (a' := ?_) ?_ ?_
                  rotate_left
                  · show Act.put _ (some 88) _ = _
                    simp only [Act.put, List.setIfInBounds_toArray, List.set_cons_zero, List.set_cons_succ, i64_w, i32_w]
                    rfl
                  exact norm_ (by simp only [putAll, Act.put, List.setIfInBounds_toArray, List.set_cons_zero, List.set_cons_succ]) (hCont (.slice (some ado126) y12149.length co126, ado126) _ ⟨hHeld, (by (with_reducible repeat (first | apply Kd.R_alloc | apply Kd.R_drewN | apply Kd.R_drew)); exact Kd.R_mono HO12151.out (fun _ hk => hk.2)), (by (with_reducible repeat (first | apply Kd.R_alloc | apply Kd.R_drewN | apply Kd.R_drew)); exact Kd.R_mono HO_12112005.out (fun _ hk => hk.2)), ⟨_, rfl⟩, (by (with_reducible repeat (first | refine blk_drewN ?_ _ | refine blk_drew ?_ | refine blk_alloc ?_ _)); exact BK12101.out), (by (with_reducible repeat (first | refine blk_drewN ?_ _ | refine blk_drew ?_ | refine blk_alloc ?_ _)); exact BK12111.out), (by repeat (first | (with_reducible first | exact HB.out | apply below_alloc | apply pw_below_drewN | apply below_drew1 | refine below_set ?_ GE12101.out | refine below_set ?_ GE12111.out) | exact HB.out))⟩)
                skip
                refine goes_ Try.func29 (by kernel_rfl) rfl #[.int .i64 a2, .int .i64 4] (by rfl) rfl rfl (by (try simp only [List.map_toArray, List.map_cons, List.map_nil]); first | done | rfl | (simp only [List.length_drop, List.length_take]; rfl)) ?_
                with_reducible refine (plaitinglaw3_within.calls a2 4 t12152 _ A118.out).mono ?_
                rintro e w' ⟨rfl, ⟨nd, rfl⟩⟩
                refine ⟨_, rfl, ?_⟩
                refine hK.out _ _ ⟨(blk_cell BK12111.out 0).trans rfl, (blk_cell BK12111.out 1).trans rfl, (blk_cell BK12111.out 2).trans rfl, (blk_cell BK12111.out 3).trans rfl, (blk_cell BK12111.out 4).trans rfl, (blk_cell BK12111.out 5).trans rfl⟩ (fun hHeld => ?_)
                clear hK K
                refine norm_ (a' := ?_) ?_ ?_
                rotate_left
                · show Act.put _ (some 88) _ = _
                  simp only [Act.put, List.setIfInBounds_toArray, List.set_cons_zero, List.set_cons_succ, i64_w, i32_w]
                  rfl
                refine one_ (i := 6) (N := some 86) #[true, true, true, true, true, true, true, true, true, false, false, false, false, false] rfl rfl (one_of HT_.out (by kernel_rfl)) (by decide) (fun K hK => ?_)
                refine Kd.R_lit_step (Kd.int .i64) _ 3 ?hg (N := 86) ?hd (xs := ([(-2), t12103, wrap64 (t12103 - 1), a2] : List Int)) (inner := [.int .i64 (-2), .int .i64 t12103, .int .i64 (wrap64 (t12103 - 1)), .int .i64 a2]) (ok := fun _ => True) (okp := fun _ => True) ?hr ?hp (fun _ hk => hk) trivial (Below.refl _ _) (Nat.le_refl _) (by simp) ?_; (case hd => rfl); (case hg => rfl); (case hr => first | (go_simp; done) | (go_simp; rfl)); (case hp => exact (Reps.one (show Kd.M (Kd.int .i64) _ _ _ (-2) [.int .i64 (-2)] from rfl) (Reps.one (show Kd.M (Kd.int .i64) _ _ _ t12103 [.int .i64 t12103] from rfl) (Reps.one (show Kd.M (Kd.int .i64) _ _ _ (wrap64 (t12103 - 1)) [.int .i64 (wrap64 (t12103 - 1))] from rfl) (Reps.one (show Kd.M (Kd.int .i64) _ _ _ a2 [.int .i64 a2] from rfl) (Reps.none _ _))))))
                intro v12150 w124 ho125 hb hg_ hnew_
                clear hg_ hnew_
                (first | rw [← Ny12149.out] at ho125 | (simp only [Int.reduceToNat] at ho125; rw [← Ny12149.out] at ho125))
                have n0_ := Aside0.mk (Kd.R_elder' (by (with_reducible repeat (first | apply Kd.R_alloc | apply Kd.R_drewN | apply Kd.R_drew)); exact HO_12112005.out) (Kd.R_base ho125) hb)
                have n1_ := Aside0.mk (Kd.R_lower (Kd.R_new' ho125 (Kd.R_lt (by (with_reducible repeat (first | apply Kd.R_alloc | apply Kd.R_drewN | apply Kd.R_drew)); exact HO_12112005.out))) (below_size (by repeat (first | (with_reducible first | exact HB.out | apply below_alloc | apply pw_below_drewN | apply below_drew1 | refine below_set ?_ GE12101.out | refine below_set ?_ GE12111.out) | exact HB.out))))
                have n2_ := Aside0.mk (blk_below (g := gb12101) (o := .cells #[.int .i64 a0_0, .int .i64 a0_1, .int .i64 a0_2, .int .i64 a0_3, .int .i64 a0_4, .slice A0_5 l0_5.length c0_5] 35 (0, 0)) (by (with_reducible repeat (first | refine blk_drewN ?_ _ | refine blk_drew ?_ | refine blk_alloc ?_ _)); exact BK12101.out) hb)
                have n3_ := Aside0.mk (blk_below (g := gb12111) (o := .cells #[.int .i64 t12103, .int .i64 t12104, .int .i64 t12105, .int .i64 t12106, .int .i64 t12107, .slice Ao19 t12108.length co19] 35 (0, 0)) (by (with_reducible repeat (first | refine blk_drewN ?_ _ | refine blk_drew ?_ | refine blk_alloc ?_ _)); exact BK12111.out) hb)
                have n4_ := Aside0.mk (below_step (by repeat (first | (with_reducible first | exact HB.out | apply below_alloc | apply pw_below_drewN | apply below_drew1 | refine below_set ?_ GE12101.out | refine below_set ?_ GE12111.out) | exact HB.out)) hb)
                clear HO_12112005
                clear BK12101
                clear BK12111
                clear HB
                have HO_12112005 := n0_
                have HO12151 := n1_
                have BK12101 := n2_
                have BK12111 := n3_
                have HB := n4_
                clear n0_ n1_ n2_ n3_ n4_
                clear hb ho125
                obtain ⟨Ao126, co126, eo126⟩ := Kd.R_slice HO12151.out
                subst eo126
                obtain ⟨ado126, fo126, _⟩ := Kd.at_int (Kd.R_reads' HO12151.out).2.2 0 (by decide) (by rw [Ny12149.out]; simp)
                cases fo126
                refine hK.out _ _ ⟨(blk_cell BK12111.out 0).trans rfl, (blk_cell BK12111.out 1).trans rfl, (blk_cell BK12111.out 2).trans rfl, (blk_cell BK12111.out 3).trans rfl, (blk_cell BK12111.out 4).trans rfl, (blk_cell BK12111.out 5).trans rfl⟩ (fun hHeld => ?_)
                clear hK K
                refine norm_ (a' := ?_) ?_ ?_
                rotate_left
                · show Act.put _ (some 86) _ = _
                  simp only [Act.put, List.setIfInBounds_toArray, List.set_cons_zero, List.set_cons_succ, i64_w, i32_w]
                  rfl
                exact norm_ (by simp only [putAll, Act.put, List.setIfInBounds_toArray, List.set_cons_zero, List.set_cons_succ]) (hCont (.slice (some ado126) y12149.length co126, ado126) _ ⟨hHeld, (by (with_reducible repeat (first | apply Kd.R_alloc | apply Kd.R_drewN | apply Kd.R_drew)); exact Kd.R_mono HO12151.out (fun _ hk => hk.2)), (by (with_reducible repeat (first | apply Kd.R_alloc | apply Kd.R_drewN | apply Kd.R_drew)); exact Kd.R_mono HO_12112005.out (fun _ hk => hk.2)), ⟨_, rfl⟩, (by (with_reducible repeat (first | refine blk_drewN ?_ _ | refine blk_drew ?_ | refine blk_alloc ?_ _)); exact BK12101.out), (by (with_reducible repeat (first | refine blk_drewN ?_ _ | refine blk_drew ?_ | refine blk_alloc ?_ _)); exact BK12111.out), (by repeat (first | (with_reducible first | exact HB.out | apply below_alloc | apply pw_below_drewN | apply below_drew1 | refine below_set ?_ GE12101.out | refine below_set ?_ GE12111.out) | exact HB.out))⟩)
              rintro ⟨v12150, adz_v12150⟩ w127 ⟨hS_, h0_, h1_, h2_, h3_, h4_, h5_⟩
              have n0_ : Aside0 (Kd.R (Kd.int .i64) 3 w127 w.heap.size (fun k_ => some k_ ≠ (.slice Ao19 t12108.length co19 : Value).ownBlock) v12150 y12149) := ⟨h0_⟩
              have n1_ : Aside0 (Kd.R (Kd.int .i64) 3 w127 w.heap.size (fun k_ => some k_ ≠ (v12150 : Value).ownBlock) (.slice Ao19 t12108.length co19) t12108) := ⟨h1_⟩
              have n2_ : Aside0 (∃ c_, (v12150 : Value) = .slice (some adz_v12150) y12149.length c_) := ⟨h2_⟩
              have n3_ : Aside0 (w127.heap[gb12101]? = some (.cells #[.int .i64 a0_0, .int .i64 a0_1, .int .i64 a0_2, .int .i64 a0_3, .int .i64 a0_4, .slice A0_5 l0_5.length c0_5] 35 (0, 0))) := ⟨h3_⟩
              have n4_ : Aside0 (w127.heap[gb12111]? = some (.cells #[.int .i64 t12103, .int .i64 t12104, .int .i64 t12105, .int .i64 t12106, .int .i64 t12107, .slice Ao19 t12108.length co19] 35 (0, 0))) := ⟨h4_⟩
              have n5_ : Aside0 (Below w.heap.size w w127) := ⟨h5_⟩
              clear HO_12112005
              clear BK12101
              clear BK12111
              clear HB
              clear h0_ h1_ h2_ h3_ h4_ h5_
              have HO12151 := n0_
              have HO_12112005 := n1_
              have HA_HO12151 := n2_
              have BK12101 := n3_
              have BK12111 := n4_
              have HB := n5_
              clear n0_ n1_ n2_ n3_ n4_ n5_
              have hHeld : w127.cell? ⟨gb12111, 0, none⟩ = some (.int .i64 t12103) ∧ w127.cell? ⟨gb12111, 1, none⟩ = some (.int .i64 t12104) ∧ w127.cell? ⟨gb12111, 2, none⟩ = some (.int .i64 t12105) ∧ w127.cell? ⟨gb12111, 3, none⟩ = some (.int .i64 t12106) ∧ w127.cell? ⟨gb12111, 4, none⟩ = some (.int .i64 t12107) ∧ w127.cell? ⟨gb12111, 5, none⟩ = some (.slice Ao19 t12108.length co19) := hS_
              obtain ⟨co128, eo128⟩ := HA_HO12151.out
              clear HA_HO12151
              subst eo128
              refine norm_ (a' := ?_) ?_ ?_
              rotate_left
              · simp only [putAll, Act.put, List.setIfInBounds_toArray, List.set_cons_zero, List.set_cons_succ]
                rfl
              refine pure_ (i := 9) (N := some 89) (v := ?_) (a' := ?_) #[true, true, true, true, true, true, true, true, true, true, false, false, false, false] rfl rfl (any_of HT_.out (by kernel_rfl)) (fun _ _ _ h => h) (Or.inl ⟨by rfl, ?_⟩) ?_ ?_
              rotate_left
              · intro w'
                go_simp
                with_reducible rfl
              rotate_left
              · simp only [Act.put, List.setIfInBounds_toArray, List.set_cons_zero, List.set_cons_succ, i64_w, i32_w]
                rfl
              refine one_ (i := 10) (N := some 90) #[true, true, true, true, true, true, true, true, true, true, true, false, false, false] rfl rfl (one_of HT_.out (by kernel_rfl)) (by decide) (fun K hK => ?_)
              (have p12153 : 0 ≤ (t12152 : Int) := of_decide_eq_true (by first | (with_reducible assumption) | assumption); have q12153 : t12152 < (y12149.length : Int) := of_decide_eq_true (by first | (with_reducible assumption) | assumption); obtain ⟨ad12153, e12153, hx12153_0⟩ := Kd.at_int (Kd.R_reads' HO12151.out).2.2 t12152 p12153 q12153; obtain rfl : adz_v12150 = ad12153 := (by injection e12153))
              refine value_ (w1 := ?_) (v := ?_) (by rfl) rfl ?_ ?_
              rotate_left 2
              · go_simp
                constructor
                · rfl
                rfl
              clear hx12153_0
              refine hK.out _ _ ⟨(blk_cell BK12111.out 0).trans rfl, (blk_cell BK12111.out 1).trans rfl, (blk_cell BK12111.out 2).trans rfl, (blk_cell BK12111.out 3).trans rfl, (blk_cell BK12111.out 4).trans rfl, (blk_cell BK12111.out 5).trans rfl⟩ (fun hHeld => ?_)
              clear hK K
              refine norm_ (a' := ?_) ?_ ?_
              rotate_left
              · show Act.put _ (some 90) _ = _
                simp only [Act.put, List.setIfInBounds_toArray, List.set_cons_zero, List.set_cons_succ, i64_w, i32_w]
                rfl
              refine one_ (i := 11) (N := some 91) #[true, true, true, true, true, true, true, true, true, true, true, true, false, false] rfl rfl (one_of HT_.out (by kernel_rfl)) (by decide) (fun K hK => ?_)
              refine Kd.R_lit_step (Kd.int .i64) _ 3 ?hg (N := 91) ?hd (xs := ([0, rd y12149 t12152] : List Int)) (inner := [.int .i64 0, .int .i64 (rd y12149 t12152)]) (ok := fun _ => True) (okp := fun _ => True) ?hr ?hp (fun _ hk => hk) trivial (Below.refl _ _) (Nat.le_refl _) (by simp) ?_; (case hd => rfl); (case hg => rfl); (case hr => first | (go_simp; done) | (go_simp; rfl)); (case hp => exact (Reps.one (show Kd.M (Kd.int .i64) _ _ _ 0 [.int .i64 0] from rfl) (Reps.one (show Kd.M (Kd.int .i64) _ _ _ (rd y12149 t12152) [.int .i64 (rd y12149 t12152)] from rfl) (Reps.none _ _))))
              intro v12155 w129 ho130 hb hg_ hnew_
              clear hg_ hnew_
              (first | rw [← Ny12154.out] at ho130 | (simp only [Int.reduceToNat] at ho130; rw [← Ny12154.out] at ho130))
              have n0_ := Aside0.mk (Kd.R_elder' (by (with_reducible repeat (first | apply Kd.R_alloc | apply Kd.R_drewN | apply Kd.R_drew)); exact HO_12112005.out) (Kd.R_base ho130) hb)
              have n1_ := Aside0.mk (Kd.R_elder' (by (with_reducible repeat (first | apply Kd.R_alloc | apply Kd.R_drewN | apply Kd.R_drew)); exact HO12151.out) (Kd.R_base ho130) hb)
              have n2_ := Aside0.mk (Kd.R_lower (Kd.R_new' (Kd.R_new' ho130 (Kd.R_lt (by (with_reducible repeat (first | apply Kd.R_alloc | apply Kd.R_drewN | apply Kd.R_drew)); exact HO_12112005.out))) (Kd.R_lt (by (with_reducible repeat (first | apply Kd.R_alloc | apply Kd.R_drewN | apply Kd.R_drew)); exact HO12151.out))) (below_size (by repeat (first | (with_reducible first | exact HB.out | apply below_alloc | apply pw_below_drewN | apply below_drew1 | refine below_set ?_ GE12101.out | refine below_set ?_ GE12111.out) | exact HB.out))))
              have n3_ := Aside0.mk (blk_below (g := gb12101) (o := .cells #[.int .i64 a0_0, .int .i64 a0_1, .int .i64 a0_2, .int .i64 a0_3, .int .i64 a0_4, .slice A0_5 l0_5.length c0_5] 35 (0, 0)) (by (with_reducible repeat (first | refine blk_drewN ?_ _ | refine blk_drew ?_ | refine blk_alloc ?_ _)); exact BK12101.out) hb)
              have n4_ := Aside0.mk (blk_below (g := gb12111) (o := .cells #[.int .i64 t12103, .int .i64 t12104, .int .i64 t12105, .int .i64 t12106, .int .i64 t12107, .slice Ao19 t12108.length co19] 35 (0, 0)) (by (with_reducible repeat (first | refine blk_drewN ?_ _ | refine blk_drew ?_ | refine blk_alloc ?_ _)); exact BK12111.out) hb)
              have n5_ := Aside0.mk (below_step (by repeat (first | (with_reducible first | exact HB.out | apply below_alloc | apply pw_below_drewN | apply below_drew1 | refine below_set ?_ GE12101.out | refine below_set ?_ GE12111.out) | exact HB.out)) hb)
              clear HO_12112005
              clear HO12151
              clear BK12101
              clear BK12111
              clear HB
              have HO_12112005 := n0_
              have HO12151 := n1_
              have HO12156 := n2_
              have BK12101 := n3_
              have BK12111 := n4_
              have HB := n5_
              clear n0_ n1_ n2_ n3_ n4_ n5_
              clear hb ho130
              obtain ⟨Ao131, co131, eo131⟩ := Kd.R_slice HO12156.out
              (first | subst eo131 | (injection eo131 with f1_ f2_ f3_; have f4_ := f1_.symm; have f5_ := f3_.symm; clear f1_ f2_ f3_; subst f4_; subst f5_))
              refine hK.out _ _ ⟨(blk_cell BK12111.out 0).trans rfl, (blk_cell BK12111.out 1).trans rfl, (blk_cell BK12111.out 2).trans rfl, (blk_cell BK12111.out 3).trans rfl, (blk_cell BK12111.out 4).trans rfl, (blk_cell BK12111.out 5).trans rfl⟩ (fun hHeld => ?_)
              clear hK K
              refine norm_ (a' := ?_) ?_ ?_
              rotate_left
              · show Act.put _ (some 91) _ = _
                simp only [Act.put, List.setIfInBounds_toArray, List.set_cons_zero, List.set_cons_succ, i64_w, i32_w]
                rfl
              refine pure_ (i := 12) (N := some 92) (v := ?_) (a' := ?_) #[true, true, true, true, true, true, true, true, true, true, true, true, true, false] rfl rfl (any_of HT_.out (by kernel_rfl)) (fun _ _ _ h => h) (Or.inl ⟨by rfl, ?_⟩) ?_ ?_
              rotate_left
              · intro w'
                go_simp
                with_reducible rfl
              rotate_left
              · simp only [Act.put, List.setIfInBounds_toArray, List.set_cons_zero, List.set_cons_succ, i64_w, i32_w]
                rfl
              refine last_ (i := 13) (N := none) #[true, true, true, true, true, true, true, true, true, true, true, true, true, true] rfl rfl (one_of HT_.out (by kernel_rfl)) (by decide) (fun K hK => ?_)
              have hs132 : w129.cell? ⟨gb12111, 5, none⟩ = some (.slice Ao19 t12108.length co19) := (blk_cell BK12111.out 5).trans rfl
              have hfs132 := blk_frozen BK12111.out 5
              have hns132_0 := NB12101_12111.out
              have hms132_0 := NB12111_12101.out
              refine skip_ (w1 := ?_) (by rfl) rfl ?_ ?_
              rotate_left
              · go_simp
                rfl
              refine hK.out _ _ ?_
              clear hK K
              refine done_ (done_of HT_.out (by kernel_rfl)) ?_
              try go_wp2
              (try (rw [drewN_self w129]; generalize hq_ : World.drewN w129 _ = w129; have n0_ := Aside0.mk (Kd.R_at hq_ HO_12112005.out); have n1_ := Aside0.mk (Kd.R_at hq_ HO12151.out); have n2_ := Aside0.mk (Kd.R_at hq_ HO12156.out); have n3_ := Aside0.mk (blk_at hq_ BK12101.out); have n4_ := Aside0.mk (blk_at hq_ BK12111.out); have n5_ := Aside0.mk (below_at hq_ HB.out); clear hq_ HO_12112005 HO12151 HO12156 BK12101 BK12111 HB; have HO_12112005 := n0_; have HO12151 := n1_; have HO12156 := n2_; have BK12101 := n3_; have BK12111 := n4_; have HB := n5_; clear n0_ n1_ n2_ n3_ n4_ n5_))
              have n0_ : Aside0 (Kd.R (Kd.int .i64) 3 (w129.setCell ⟨gb12111, 5, none⟩ (.slice Ao131 y12154.length co131)) w.heap.size (fun k_ => some k_ ≠ (.slice (some adz_v12150) y12149.length co128 : Value).ownBlock ∧ some k_ ≠ (.slice Ao131 y12154.length co131 : Value).ownBlock) (.slice Ao19 t12108.length co19) t12108) := ⟨by (with_reducible repeat (first | apply Kd.R_alloc | apply Kd.R_drewN | apply Kd.R_drew)); exact Kd.R_mono (Kd.R_far (p := ⟨gb12111, 5, none⟩) (Kd.R_types HO_12112005.out BK12111.out (by decide)) (fun _ hk => hk.2) (.slice Ao131 y12154.length co131)) (fun _ hk => ⟨hk.1.1, hk.1.2⟩)⟩
              have n1_ : Aside0 (Kd.R (Kd.int .i64) 3 (w129.setCell ⟨gb12111, 5, none⟩ (.slice Ao131 y12154.length co131)) w.heap.size (fun k_ => some k_ ≠ (.slice Ao19 t12108.length co19 : Value).ownBlock ∧ some k_ ≠ (.slice Ao131 y12154.length co131 : Value).ownBlock) (.slice (some adz_v12150) y12149.length co128) y12149) := ⟨by (with_reducible repeat (first | apply Kd.R_alloc | apply Kd.R_drewN | apply Kd.R_drew)); exact Kd.R_mono (Kd.R_far (p := ⟨gb12111, 5, none⟩) (Kd.R_types HO12151.out BK12111.out (by decide)) (fun _ hk => hk.2) (.slice Ao131 y12154.length co131)) (fun _ hk => ⟨hk.1.1, hk.1.2⟩)⟩
              have n2_ : Aside0 (Kd.R (Kd.int .i64) 3 (w129.setCell ⟨gb12111, 5, none⟩ (.slice Ao131 y12154.length co131)) w.heap.size (fun k_ => some k_ ≠ (.slice Ao19 t12108.length co19 : Value).ownBlock ∧ some k_ ≠ (.slice (some adz_v12150) y12149.length co128 : Value).ownBlock) (.slice Ao131 y12154.length co131) y12154) := ⟨by (with_reducible repeat (first | apply Kd.R_alloc | apply Kd.R_drewN | apply Kd.R_drew)); exact Kd.R_mono (Kd.R_far (p := ⟨gb12111, 5, none⟩) (Kd.R_types HO12156.out BK12111.out (by decide)) (fun _ hk => hk.2) (.slice Ao131 y12154.length co131)) (fun _ hk => ⟨hk.1.1.2, hk.1.2⟩)⟩
              have n3_ : Aside0 ((w129.setCell ⟨gb12111, 5, none⟩ (.slice Ao131 y12154.length co131)).heap[gb12101]? = some (.cells #[.int .i64 a0_0, .int .i64 a0_1, .int .i64 a0_2, .int .i64 a0_3, .int .i64 a0_4, .slice A0_5 l0_5.length c0_5] 35 (0, 0))) := ⟨by (with_reducible repeat (first | refine blk_drewN ?_ _ | refine blk_drew ?_ | refine blk_alloc ?_ _)); refine blk_far ?_ NB12101_12111.out _; (with_reducible repeat (first | refine blk_drewN ?_ _ | refine blk_drew ?_ | refine blk_alloc ?_ _)); exact BK12101.out⟩
              have n4_ : Aside0 ((w129.setCell ⟨gb12111, 5, none⟩ (.slice Ao131 y12154.length co131)).heap[gb12111]? = some (.cells #[.int .i64 t12103, .int .i64 t12104, .int .i64 t12105, .int .i64 t12106, .int .i64 t12107, .slice Ao131 y12154.length co131] 35 (0, 0))) := ⟨by (with_reducible repeat (first | refine blk_drewN ?_ _ | refine blk_drew ?_ | refine blk_alloc ?_ _)); refine blk_put (cs := #[.int .i64 t12103, .int .i64 t12104, .int .i64 t12105, .int .i64 t12106, .int .i64 t12107, .slice Ao19 t12108.length co19]) ?_ 5 _ rfl; (with_reducible repeat (first | refine blk_drewN ?_ _ | refine blk_drew ?_ | refine blk_alloc ?_ _)); exact BK12111.out⟩
              have n5_ : Aside0 (Below w.heap.size w (w129.setCell ⟨gb12111, 5, none⟩ (.slice Ao131 y12154.length co131))) := ⟨by repeat (first | (with_reducible first | exact HB.out | apply below_alloc | apply pw_below_drewN | apply below_drew1 | refine below_set ?_ GE12101.out | refine below_set ?_ GE12111.out) | exact HB.out)⟩
              (try clear HO_12112005)
              (try clear HO12151)
              (try clear HO12156)
              (try clear BK12101)
              (try clear BK12111)
              (try clear HB)
              generalize (w129.setCell ⟨gb12111, 5, none⟩ (.slice Ao131 y12154.length co131)) = w133 at n0_ n1_ n2_ n3_ n4_ n5_ ⊢
              have HO_12112005 := n0_
              have HO12151 := n1_
              have HO12156 := n2_
              have BK12101 := n3_
              have BK12111 := n4_
              have HB := n5_
              clear n0_ n1_ n2_ n3_ n4_ n5_
              have n0_ := Aside0.mk (Kd.R_drew HO_12112005.out)
              have n1_ := Aside0.mk (Kd.R_drew HO12151.out)
              have n2_ := Aside0.mk (Kd.R_drew HO12156.out)
              have n3_ := Aside0.mk (blk_drew BK12101.out)
              have n4_ := Aside0.mk (blk_drew BK12111.out)
              have n5_ := Aside0.mk (below_drew1 HB.out)
              clear HO_12112005
              clear HO12151
              clear HO12156
              clear BK12101
              clear BK12111
              clear HB
              have HO_12112005 := n0_
              have HO12151 := n1_
              have HO12156 := n2_
              have BK12101 := n3_
              have BK12111 := n4_
              have HB := n5_
              clear n0_ n1_ n2_ n3_ n4_ n5_
              refine start_ (n := 6) (S := fun w' => w'.cell? ⟨gb12111, 0, none⟩ = some (.int .i64 t12103) ∧ w'.cell? ⟨gb12111, 1, none⟩ = some (.int .i64 t12104) ∧ w'.cell? ⟨gb12111, 2, none⟩ = some (.int .i64 t12105) ∧ w'.cell? ⟨gb12111, 3, none⟩ = some (.int .i64 t12106) ∧ w'.cell? ⟨gb12111, 4, none⟩ = some (.int .i64 t12107) ∧ w'.cell? ⟨gb12111, 5, none⟩ = some (.slice Ao131 y12154.length co131)) (ds := []) #[false, false, false, false, false, false] (by kernel_rfl) rfl rfl ⟨(blk_cell BK12111.out 0).trans rfl, (blk_cell BK12111.out 1).trans rfl, (blk_cell BK12111.out 2).trans rfl, (blk_cell BK12111.out 3).trans rfl, (blk_cell BK12111.out 4).trans rfl, (blk_cell BK12111.out 5).trans rfl⟩ (fun hHeld => ?_)
              generalize w133.drew = w134 at HO_12112005 HO12151 HO12156 BK12101 BK12111 HB hHeld ⊢
              refine take_ (i := 0) (N := some 93) (v := ?_) (a' := ?_) #[true, false, false, false, false, false] rfl rfl (by kernel_rfl) (fun _ _ _ h => h) (Or.inl ⟨by rfl, ?_⟩) hHeld ?_ ?_
              rotate_left
              · rintro w' ⟨s0, s1, s2, s3, s4, s5⟩
                go_simp
                with_reducible rfl
              rotate_left
              · simp only [Act.put, List.setIfInBounds_toArray, List.set_cons_zero, List.set_cons_succ, i64_w, i32_w]
                rfl
              refine take_ (i := 2) (N := some 95) (v := ?_) (a' := ?_) #[true, false, true, false, false, false] rfl rfl (by kernel_rfl) (fun _ _ _ h => h) (Or.inl ⟨by rfl, ?_⟩) hHeld ?_ ?_
              rotate_left
              · rintro w' ⟨s0, s1, s2, s3, s4, s5⟩
                go_simp
                with_reducible rfl
              rotate_left
              · simp only [Act.put, List.setIfInBounds_toArray, List.set_cons_zero, List.set_cons_succ, i64_w, i32_w]
                rfl
              refine one_ (i := 1) (N := some 94) #[true, true, true, false, false, false] rfl rfl (by kernel_rfl) (by decide) (fun K hK => ?_)
              refine goes_ Try.func27 (by kernel_rfl) rfl #[.agg #[.int .i64 t12103, .int .i64 t12104, .int .i64 t12105, .int .i64 t12106, .int .i64 t12107, .slice Ao131 y12154.length co131]] (by rfl) rfl rfl (by (try simp only [List.map_toArray, List.map_cons, List.map_nil]); first | done | rfl | (simp only [List.length_drop, List.length_take]; rfl)) ?_
              with_reducible refine (conf_Check.calls t12103 t12104 t12105 t12106 t12107 _ _ y12154 t12157 _ ?side1 ?side2 A121.out).mono ?_
              (case side1 => repeat (first | exact (Kd.R_reads' HO12156.out).2.2 | (with_reducible refine Kd.C_alloc ?_ _) | (with_reducible refine Kd.C_drewN ?_ _) | (with_reducible refine Kd.C_drew ?_)))
              (case side2 => exact (Kd.R_reads' HO12156.out).2.1)
              rintro e w135 ⟨rfl, hb⟩
              refine ⟨_, rfl, ?_⟩
              have n0_ := Aside0.mk (Kd.R_below (by (with_reducible repeat (first | apply Kd.R_alloc | apply Kd.R_drewN | apply Kd.R_drew)); exact HO_12112005.out) hb)
              have n1_ := Aside0.mk (Kd.R_below (by (with_reducible repeat (first | apply Kd.R_alloc | apply Kd.R_drewN | apply Kd.R_drew)); exact HO12151.out) hb)
              have n2_ := Aside0.mk (Kd.R_below (by (with_reducible repeat (first | apply Kd.R_alloc | apply Kd.R_drewN | apply Kd.R_drew)); exact HO12156.out) hb)
              have n3_ := Aside0.mk (blk_below (g := gb12101) (o := .cells #[.int .i64 a0_0, .int .i64 a0_1, .int .i64 a0_2, .int .i64 a0_3, .int .i64 a0_4, .slice A0_5 l0_5.length c0_5] 35 (0, 0)) (by (with_reducible repeat (first | refine blk_drewN ?_ _ | refine blk_drew ?_ | refine blk_alloc ?_ _)); exact BK12101.out) hb)
              have n4_ := Aside0.mk (blk_below (g := gb12111) (o := .cells #[.int .i64 t12103, .int .i64 t12104, .int .i64 t12105, .int .i64 t12106, .int .i64 t12107, .slice Ao131 y12154.length co131] 35 (0, 0)) (by (with_reducible repeat (first | refine blk_drewN ?_ _ | refine blk_drew ?_ | refine blk_alloc ?_ _)); exact BK12111.out) hb)
              have n5_ := Aside0.mk (below_step (by repeat (first | (with_reducible first | exact HB.out | apply below_alloc | apply pw_below_drewN | apply below_drew1 | refine below_set ?_ GE12101.out | refine below_set ?_ GE12111.out) | exact HB.out)) hb)
              clear HO_12112005
              clear HO12151
              clear HO12156
              clear BK12101
              clear BK12111
              clear HB
              have HO_12112005 := n0_
              have HO12151 := n1_
              have HO12156 := n2_
              have BK12101 := n3_
              have BK12111 := n4_
              have HB := n5_
              clear n0_ n1_ n2_ n3_ n4_ n5_
              (try clear hb)
              (try clear hb2)
              (try clear hk)
              (try clear hi)
              refine hK.out _ _ ⟨(blk_cell BK12111.out 0).trans rfl, (blk_cell BK12111.out 1).trans rfl, (blk_cell BK12111.out 2).trans rfl, (blk_cell BK12111.out 3).trans rfl, (blk_cell BK12111.out 4).trans rfl, (blk_cell BK12111.out 5).trans rfl⟩ (fun hHeld => ?_)
              clear hK K
              refine norm_ (a' := ?_) ?_ ?_
              rotate_left
              · show Act.put _ (some 94) _ = _
                simp only [Act.put, List.setIfInBounds_toArray, List.set_cons_zero, List.set_cons_succ, i64_w, i32_w]
                rfl
              refine one_ (i := 3) (N := some 96) #[true, true, true, true, false, false] rfl rfl (by kernel_rfl) (by decide) (fun K hK => ?_)
              refine goes_ Try.func28 (by kernel_rfl) rfl #[.agg #[.int .i64 t12103, .int .i64 t12104, .int .i64 t12105, .int .i64 t12106, .int .i64 t12107, .slice Ao131 y12154.length co131]] (by rfl) rfl rfl (by (try simp only [List.map_toArray, List.map_cons, List.map_nil]); first | done | rfl | (simp only [List.length_drop, List.length_take]; rfl)) ?_
              with_reducible refine (plaitingref3_Check.calls kj10 t12103 t12104 t12105 t12106 t12107 _ _ y12154 t12158 _ ?side1 ?side2 A122.out).mono ?_
              (case side1 => repeat (first | exact (Kd.R_reads' HO12156.out).2.2 | (with_reducible refine Kd.C_alloc ?_ _) | (with_reducible refine Kd.C_drewN ?_ _) | (with_reducible refine Kd.C_drew ?_)))
              (case side2 => exact (Kd.R_reads' HO12156.out).2.1)
              rintro e w136 ⟨rfl, hb⟩
              refine ⟨_, rfl, ?_⟩
              have n0_ := Aside0.mk (Kd.R_below (by (with_reducible repeat (first | apply Kd.R_alloc | apply Kd.R_drewN | apply Kd.R_drew)); exact HO_12112005.out) hb)
              have n1_ := Aside0.mk (Kd.R_below (by (with_reducible repeat (first | apply Kd.R_alloc | apply Kd.R_drewN | apply Kd.R_drew)); exact HO12151.out) hb)
              have n2_ := Aside0.mk (Kd.R_below (by (with_reducible repeat (first | apply Kd.R_alloc | apply Kd.R_drewN | apply Kd.R_drew)); exact HO12156.out) hb)
              have n3_ := Aside0.mk (blk_below (g := gb12101) (o := .cells #[.int .i64 a0_0, .int .i64 a0_1, .int .i64 a0_2, .int .i64 a0_3, .int .i64 a0_4, .slice A0_5 l0_5.length c0_5] 35 (0, 0)) (by (with_reducible repeat (first | refine blk_drewN ?_ _ | refine blk_drew ?_ | refine blk_alloc ?_ _)); exact BK12101.out) hb)
              have n4_ := Aside0.mk (blk_below (g := gb12111) (o := .cells #[.int .i64 t12103, .int .i64 t12104, .int .i64 t12105, .int .i64 t12106, .int .i64 t12107, .slice Ao131 y12154.length co131] 35 (0, 0)) (by (with_reducible repeat (first | refine blk_drewN ?_ _ | refine blk_drew ?_ | refine blk_alloc ?_ _)); exact BK12111.out) hb)
              have n5_ := Aside0.mk (below_step (by repeat (first | (with_reducible first | exact HB.out | apply below_alloc | apply pw_below_drewN | apply below_drew1 | refine below_set ?_ GE12101.out | refine below_set ?_ GE12111.out) | exact HB.out)) hb)
              clear HO_12112005
              clear HO12151
              clear HO12156
              clear BK12101
              clear BK12111
              clear HB
              have HO_12112005 := n0_
              have HO12151 := n1_
              have HO12156 := n2_
              have BK12101 := n3_
              have BK12111 := n4_
              have HB := n5_
              clear n0_ n1_ n2_ n3_ n4_ n5_
              (try clear hb)
              (try clear hb2)
              (try clear hk)
              (try clear hi)
              refine hK.out _ _ ⟨(blk_cell BK12111.out 0).trans rfl, (blk_cell BK12111.out 1).trans rfl, (blk_cell BK12111.out 2).trans rfl, (blk_cell BK12111.out 3).trans rfl, (blk_cell BK12111.out 4).trans rfl, (blk_cell BK12111.out 5).trans rfl⟩ (fun hHeld => ?_)
              clear hK K
              refine norm_ (a' := ?_) ?_ ?_
              rotate_left
              · show Act.put _ (some 96) _ = _
                simp only [Act.put, List.setIfInBounds_toArray, List.set_cons_zero, List.set_cons_succ, i64_w, i32_w]
                rfl
              refine pure_ (i := 4) (N := some 97) (v := ?_) (a' := ?_) #[true, true, true, true, true, false] rfl rfl (by kernel_rfl) (fun _ _ _ h => h) (Or.inl ⟨by rfl, ?_⟩) ?_ ?_
              rotate_left
              · intro w'
                go_simp
                with_reducible rfl
              rotate_left
              · simp only [Act.put, List.setIfInBounds_toArray, List.set_cons_zero, List.set_cons_succ, i64_w, i32_w]
                rfl
              refine pure_ (i := 5) (N := some 6) (v := ?_) (a' := ?_) #[true, true, true, true, true, true] rfl rfl (by kernel_rfl) (fun _ _ _ h => h) (Or.inl ⟨by rfl, ?_⟩) ?_ ?_
              rotate_left
              · intro w'
                go_simp
                with_reducible rfl
              rotate_left
              · simp only [Act.put, List.setIfInBounds_toArray, List.set_cons_zero, List.set_cons_succ, i64_w, i32_w]
                rfl
              refine done_ (by kernel_rfl) ?_
              try go_wp2
              go_ret
              exact ⟨by first | rfl | (simp [errW_none, errW_some] <;> rfl) | (simp [*, errW_none, errW_some] <;> rfl), by repeat (first | (with_reducible first | exact HB.out | apply below_alloc | apply pw_below_drewN | apply below_drew1 | refine below_set ?_ GE12101.out | refine below_set ?_ GE12111.out) | exact HB.out)⟩
            rw [if_neg c120] at H
            exact absurd H (by simp)
          rw [if_neg c119] at H
          exact absurd H (by simp)
        rw [if_neg c117] at H
        have c117b0 : (t12115 == 7) = false := beq_eq_false_iff_ne.mpr c117
        have c117b1 : (t12115 != 7) = true := bne_iff_ne.mpr c117
        replace H := Option.bind_eq_some_iff.mp H
        obtain ⟨t12159, A1370, H⟩ := H
        replace H : ((plaitingref3_Check.f kj10 t12103 t12104 t12105 t12106 t12107 t12108).bind fun t12160 => (some (t12159 == t12160))) = some r := H
        have A137 := Aside0.mk A1370
        clear A1370
        replace H := Option.bind_eq_some_iff.mp H
        obtain ⟨t12160, A1380, H⟩ := H
        replace H : (some (t12159 == t12160)) = some r := H
        have A138 := Aside0.mk A1380
        clear A1380
        obtain rfl := Option.some.inj H
        try go_wp2_with (first | ((with_reducible refine gate_callee (f := 29) rfl ?_); refine goesL_ (some 27) rfl rfl Try.func29 (by kernel_rfl) rfl #[.int .i64 a1, .int .i64 8] rfl (by (try simp only [List.map_toArray, List.map_cons, List.map_nil]); first | done | rfl | (simp only [List.length_drop, List.length_take]; rfl)) ?_; (with_reducible refine (plaitinglaw3_within.calls a1 8 t12115 _ A34.out).mono ?_); rintro e w' ⟨rfl, ⟨nd, rfl⟩⟩; refine ⟨_, rfl, ?_⟩))
        (try (rw [drewN_self wc]; generalize hq_ : World.drewN wc _ = wc; have n0_ : Aside0 (Kd.R (Kd.int .i64) 3 wc w.heap.size (fun _ => True) (.slice Ao19 t12108.length co19) t12108) := ⟨by rw [← hq_]; exact (by (with_reducible repeat (first | apply Kd.R_alloc | apply Kd.R_drewN | apply Kd.R_drew)); exact HO_12112005.out)⟩; have n1_ : Aside0 (wc.heap[gb12101]? = some (.cells #[.int .i64 a0_0, .int .i64 a0_1, .int .i64 a0_2, .int .i64 a0_3, .int .i64 a0_4, .slice A0_5 l0_5.length c0_5] 35 (0, 0))) := ⟨by rw [← hq_]; exact (by (with_reducible repeat (first | refine blk_drewN ?_ _ | refine blk_drew ?_ | refine blk_alloc ?_ _)); exact BK12101.out)⟩; have n2_ : Aside0 (wc.heap[gb12111]? = some (.cells #[.int .i64 t12103, .int .i64 t12104, .int .i64 t12105, .int .i64 t12106, .int .i64 t12107, .slice Ao19 t12108.length co19] 35 (0, 0))) := ⟨by rw [← hq_]; exact (by (with_reducible repeat (first | refine blk_drewN ?_ _ | refine blk_drew ?_ | refine blk_alloc ?_ _)); exact BK12111.out)⟩; have n3_ : Aside0 (Below w.heap.size w wc) := ⟨by rw [← hq_]; exact (by repeat (first | (with_reducible first | exact HB.out | apply below_alloc | apply pw_below_drewN | apply below_drew1 | refine below_set ?_ GE12101.out | refine below_set ?_ GE12111.out) | exact HB.out))⟩; clear HO_12112005 BK12101 BK12111 HB hq_; have HO_12112005 := n0_; have BK12101 := n1_; have BK12111 := n2_; have HB := n3_; clear n0_ n1_ n2_ n3_))
        have n0_ := Aside0.mk (Kd.R_drew HO_12112005.out)
        have n1_ := Aside0.mk (blk_drew BK12101.out)
        have n2_ := Aside0.mk (blk_drew BK12111.out)
        have n3_ := Aside0.mk (below_drew1 HB.out)
        clear HO_12112005
        clear BK12101
        clear BK12111
        clear HB
        have HO_12112005 := n0_
        have BK12101 := n1_
        have BK12111 := n2_
        have HB := n3_
        clear n0_ n1_ n2_ n3_
        refine start_ (n := 6) (S := fun w' => w'.cell? ⟨gb12111, 0, none⟩ = some (.int .i64 t12103) ∧ w'.cell? ⟨gb12111, 1, none⟩ = some (.int .i64 t12104) ∧ w'.cell? ⟨gb12111, 2, none⟩ = some (.int .i64 t12105) ∧ w'.cell? ⟨gb12111, 3, none⟩ = some (.int .i64 t12106) ∧ w'.cell? ⟨gb12111, 4, none⟩ = some (.int .i64 t12107) ∧ w'.cell? ⟨gb12111, 5, none⟩ = some (.slice Ao19 t12108.length co19)) (ds := []) #[false, false, false, false, false, false] (by kernel_rfl) rfl rfl ⟨(blk_cell BK12111.out 0).trans rfl, (blk_cell BK12111.out 1).trans rfl, (blk_cell BK12111.out 2).trans rfl, (blk_cell BK12111.out 3).trans rfl, (blk_cell BK12111.out 4).trans rfl, (blk_cell BK12111.out 5).trans rfl⟩ (fun hHeld => ?_)
        generalize wc.drew = w139 at HO_12112005 BK12101 BK12111 HB hHeld ⊢
        refine take_ (i := 0) (N := some 93) (v := ?_) (a' := ?_) #[true, false, false, false, false, false] rfl rfl (by kernel_rfl) (fun _ _ _ h => h) (Or.inl ⟨by rfl, ?_⟩) hHeld ?_ ?_
        rotate_left
        · rintro w' ⟨s0, s1, s2, s3, s4, s5⟩
          go_simp
          with_reducible rfl
        rotate_left
        · simp only [Act.put, List.setIfInBounds_toArray, List.set_cons_zero, List.set_cons_succ, i64_w, i32_w]
          rfl
        refine take_ (i := 2) (N := some 95) (v := ?_) (a' := ?_) #[true, false, true, false, false, false] rfl rfl (by kernel_rfl) (fun _ _ _ h => h) (Or.inl ⟨by rfl, ?_⟩) hHeld ?_ ?_
        rotate_left
        · rintro w' ⟨s0, s1, s2, s3, s4, s5⟩
          go_simp
          with_reducible rfl
        rotate_left
        · simp only [Act.put, List.setIfInBounds_toArray, List.set_cons_zero, List.set_cons_succ, i64_w, i32_w]
          rfl
        refine one_ (i := 1) (N := some 94) #[true, true, true, false, false, false] rfl rfl (by kernel_rfl) (by decide) (fun K hK => ?_)
        refine goes_ Try.func27 (by kernel_rfl) rfl #[.agg #[.int .i64 t12103, .int .i64 t12104, .int .i64 t12105, .int .i64 t12106, .int .i64 t12107, .slice Ao19 t12108.length co19]] (by rfl) rfl rfl (by (try simp only [List.map_toArray, List.map_cons, List.map_nil]); first | done | rfl | (simp only [List.length_drop, List.length_take]; rfl)) ?_
        with_reducible refine (conf_Check.calls t12103 t12104 t12105 t12106 t12107 _ _ t12108 t12159 _ ?side1 ?side2 A137.out).mono ?_
        (case side1 => repeat (first | exact (Kd.R_reads' HO_12112005.out).2.2 | (with_reducible refine Kd.C_alloc ?_ _) | (with_reducible refine Kd.C_drewN ?_ _) | (with_reducible refine Kd.C_drew ?_)))
        (case side2 => exact (Kd.R_reads' HO_12112005.out).2.1)
        rintro e w140 ⟨rfl, hb⟩
        refine ⟨_, rfl, ?_⟩
        have n0_ := Aside0.mk (Kd.R_below (by (with_reducible repeat (first | apply Kd.R_alloc | apply Kd.R_drewN | apply Kd.R_drew)); exact HO_12112005.out) hb)
        have n1_ := Aside0.mk (blk_below (g := gb12101) (o := .cells #[.int .i64 a0_0, .int .i64 a0_1, .int .i64 a0_2, .int .i64 a0_3, .int .i64 a0_4, .slice A0_5 l0_5.length c0_5] 35 (0, 0)) (by (with_reducible repeat (first | refine blk_drewN ?_ _ | refine blk_drew ?_ | refine blk_alloc ?_ _)); exact BK12101.out) hb)
        have n2_ := Aside0.mk (blk_below (g := gb12111) (o := .cells #[.int .i64 t12103, .int .i64 t12104, .int .i64 t12105, .int .i64 t12106, .int .i64 t12107, .slice Ao19 t12108.length co19] 35 (0, 0)) (by (with_reducible repeat (first | refine blk_drewN ?_ _ | refine blk_drew ?_ | refine blk_alloc ?_ _)); exact BK12111.out) hb)
        have n3_ := Aside0.mk (below_step (by repeat (first | (with_reducible first | exact HB.out | apply below_alloc | apply pw_below_drewN | apply below_drew1 | refine below_set ?_ GE12101.out | refine below_set ?_ GE12111.out) | exact HB.out)) hb)
        clear HO_12112005
        clear BK12101
        clear BK12111
        clear HB
        have HO_12112005 := n0_
        have BK12101 := n1_
        have BK12111 := n2_
        have HB := n3_
        clear n0_ n1_ n2_ n3_
        (try clear hb)
        (try clear hb2)
        (try clear hk)
        (try clear hi)
        refine hK.out _ _ ⟨(blk_cell BK12111.out 0).trans rfl, (blk_cell BK12111.out 1).trans rfl, (blk_cell BK12111.out 2).trans rfl, (blk_cell BK12111.out 3).trans rfl, (blk_cell BK12111.out 4).trans rfl, (blk_cell BK12111.out 5).trans rfl⟩ (fun hHeld => ?_)
        clear hK K
        refine norm_ (a' := ?_) ?_ ?_
        rotate_left
        · show Act.put _ (some 94) _ = _
          simp only [Act.put, List.setIfInBounds_toArray, List.set_cons_zero, List.set_cons_succ, i64_w, i32_w]
          rfl
        refine one_ (i := 3) (N := some 96) #[true, true, true, true, false, false] rfl rfl (by kernel_rfl) (by decide) (fun K hK => ?_)
        refine goes_ Try.func28 (by kernel_rfl) rfl #[.agg #[.int .i64 t12103, .int .i64 t12104, .int .i64 t12105, .int .i64 t12106, .int .i64 t12107, .slice Ao19 t12108.length co19]] (by rfl) rfl rfl (by (try simp only [List.map_toArray, List.map_cons, List.map_nil]); first | done | rfl | (simp only [List.length_drop, List.length_take]; rfl)) ?_
        with_reducible refine (plaitingref3_Check.calls kj10 t12103 t12104 t12105 t12106 t12107 _ _ t12108 t12160 _ ?side1 ?side2 A138.out).mono ?_
        (case side1 => repeat (first | exact (Kd.R_reads' HO_12112005.out).2.2 | (with_reducible refine Kd.C_alloc ?_ _) | (with_reducible refine Kd.C_drewN ?_ _) | (with_reducible refine Kd.C_drew ?_)))
        (case side2 => exact (Kd.R_reads' HO_12112005.out).2.1)
        rintro e w141 ⟨rfl, hb⟩
        refine ⟨_, rfl, ?_⟩
        have n0_ := Aside0.mk (Kd.R_below (by (with_reducible repeat (first | apply Kd.R_alloc | apply Kd.R_drewN | apply Kd.R_drew)); exact HO_12112005.out) hb)
        have n1_ := Aside0.mk (blk_below (g := gb12101) (o := .cells #[.int .i64 a0_0, .int .i64 a0_1, .int .i64 a0_2, .int .i64 a0_3, .int .i64 a0_4, .slice A0_5 l0_5.length c0_5] 35 (0, 0)) (by (with_reducible repeat (first | refine blk_drewN ?_ _ | refine blk_drew ?_ | refine blk_alloc ?_ _)); exact BK12101.out) hb)
        have n2_ := Aside0.mk (blk_below (g := gb12111) (o := .cells #[.int .i64 t12103, .int .i64 t12104, .int .i64 t12105, .int .i64 t12106, .int .i64 t12107, .slice Ao19 t12108.length co19] 35 (0, 0)) (by (with_reducible repeat (first | refine blk_drewN ?_ _ | refine blk_drew ?_ | refine blk_alloc ?_ _)); exact BK12111.out) hb)
        have n3_ := Aside0.mk (below_step (by repeat (first | (with_reducible first | exact HB.out | apply below_alloc | apply pw_below_drewN | apply below_drew1 | refine below_set ?_ GE12101.out | refine below_set ?_ GE12111.out) | exact HB.out)) hb)
        clear HO_12112005
        clear BK12101
        clear BK12111
        clear HB
        have HO_12112005 := n0_
        have BK12101 := n1_
        have BK12111 := n2_
        have HB := n3_
        clear n0_ n1_ n2_ n3_
        (try clear hb)
        (try clear hb2)
        (try clear hk)
        (try clear hi)
        refine hK.out _ _ ⟨(blk_cell BK12111.out 0).trans rfl, (blk_cell BK12111.out 1).trans rfl, (blk_cell BK12111.out 2).trans rfl, (blk_cell BK12111.out 3).trans rfl, (blk_cell BK12111.out 4).trans rfl, (blk_cell BK12111.out 5).trans rfl⟩ (fun hHeld => ?_)
        clear hK K
        refine norm_ (a' := ?_) ?_ ?_
        rotate_left
        · show Act.put _ (some 96) _ = _
          simp only [Act.put, List.setIfInBounds_toArray, List.set_cons_zero, List.set_cons_succ, i64_w, i32_w]
          rfl
        refine pure_ (i := 4) (N := some 97) (v := ?_) (a' := ?_) #[true, true, true, true, true, false] rfl rfl (by kernel_rfl) (fun _ _ _ h => h) (Or.inl ⟨by rfl, ?_⟩) ?_ ?_
        rotate_left
        · intro w'
          go_simp
          with_reducible rfl
        rotate_left
        · simp only [Act.put, List.setIfInBounds_toArray, List.set_cons_zero, List.set_cons_succ, i64_w, i32_w]
          rfl
        refine pure_ (i := 5) (N := some 6) (v := ?_) (a' := ?_) #[true, true, true, true, true, true] rfl rfl (by kernel_rfl) (fun _ _ _ h => h) (Or.inl ⟨by rfl, ?_⟩) ?_ ?_
        rotate_left
        · intro w'
          go_simp
          with_reducible rfl
        rotate_left
        · simp only [Act.put, List.setIfInBounds_toArray, List.set_cons_zero, List.set_cons_succ, i64_w, i32_w]
          rfl
        refine done_ (by kernel_rfl) ?_
        try go_wp2
        go_ret
        exact ⟨by first | rfl | (simp [errW_none, errW_some] <;> rfl) | (simp [*, errW_none, errW_some] <;> rfl), by repeat (first | (with_reducible first | exact HB.out | apply below_alloc | apply pw_below_drewN | apply below_drew1 | refine below_set ?_ GE12101.out | refine below_set ?_ GE12111.out) | exact HB.out)⟩
  replace c5 := Bool.eq_false_iff.mpr c5
  subst c5
  have H1 : (some false) = some r := by rw [if_neg (show ¬ (false = true) by decide)] at H; exact H
  clear H
  have H := H1
  clear H1
  exact absurd ((Option.some.inj H).trans HRT.out) (by decide)

/-- The pure statement of plaitinglaw3_ConfChecks. -/
def plaitinglaw3_ConfChecks.Pure : Prop := ∀ (a0_0 : Int) (a0_1 : Int) (a0_2 : Int) (a0_3 : Int) (a0_4 : Int) (l0_5 : List Int) (a1 : Int) (a2 : Int), ((Lit.int .i64 a0_0).wf = true) → ((Lit.int .i64 a0_1).wf = true) → ((Lit.int .i64 a0_2).wf = true) → ((Lit.int .i64 a0_3).wf = true) → ((Lit.int .i64 a0_4).wf = true) → (l0_5.length ≤ maxLen ∧ ∀ y_ ∈ l0_5, (Lit.int .i64 y_).wf = true) → ((Lit.int .i64 a1).wf = true) → ((Lit.int .i64 a2).wf = true) → ∃ k, plaitinglaw3_ConfChecks.f k a0_0 a0_1 a0_2 a0_3 a0_4 l0_5 a1 a2 = some true
theorem plaitinglaw3_ConfChecks.walk (P : plaitinglaw3_ConfChecks.Pure) (a0_0 : Int) (a0_1 : Int) (a0_2 : Int) (a0_3 : Int) (a0_4 : Int) (A0_5 : Option Addr) (c0_5 : Nat) (l0_5 : List Int) (a1 : Int) (a2 : Int) (w : World) (q0 : (Lit.int .i64 a0_0).wf = true) (q1 : (Lit.int .i64 a0_1).wf = true) (q2 : (Lit.int .i64 a0_2).wf = true) (q3 : (Lit.int .i64 a0_3).wf = true) (q4 : (Lit.int .i64 a0_4).wf = true) (q5 : l0_5.length ≤ maxLen ∧ ∀ y_ ∈ l0_5, (Lit.int .i64 y_).wf = true) (q6 : (Lit.int .i64 a1).wf = true) (q7 : (Lit.int .i64 a2).wf = true) (hr0_5 : Kd.C (Kd.int .i64) w A0_5 l0_5.length l0_5) (hc0_5 : l0_5.length ≤ c0_5) :
    Calls Try.prog 6 #[.agg #[.int .i64 a0_0, .int .i64 a0_1, .int .i64 a0_2, .int .i64 a0_3, .int .i64 a0_4, .slice A0_5 l0_5.length c0_5], .int .i64 a1, .int .i64 a2] w fun e w' => e = .returned (.bool true) ∧ Below w.heap.size w w' := by
  obtain ⟨k, h⟩ := P a0_0 a0_1 a0_2 a0_3 a0_4 l0_5 a1 a2 q0 q1 q2 q3 q4 q5 q6 q7
  refine (plaitinglaw3_ConfChecks.calls k a0_0 a0_1 a0_2 a0_3 a0_4 A0_5 c0_5 l0_5 a1 a2 true w hr0_5 hc0_5 rfl h).mono ?_
  rintro e w' ⟨rfl, hd⟩
  exact ⟨rfl, hd⟩

end Go.Proofs.Ytdkbalaphblobaa.P
