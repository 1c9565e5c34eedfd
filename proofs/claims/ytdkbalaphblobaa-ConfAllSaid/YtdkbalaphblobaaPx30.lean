/- Printed by a program of this session (myprint) out of the translation: the functions as plain Lean functions, and that the calls compute them. What counts is Lean's check. -/
import Derived.Test.YtdkbalaphblobaaPx0
import Derived.Test.YtdkbalaphblobaaPx5
import Derived.Test.YtdkbalaphblobaaPx8
import Derived.Test.YtdkbalaphblobaaPx10
import Derived.Test.YtdkbalaphblobaaPx11
namespace Go.Proofs.Ytdkbalaphblobaa.P
open Go.RowKit Go.Proofs.YtdkbalaphblobaaW.PrintWords Go.Proofs.YtdkbalaphblobaaW.PrintLast Go.Proofs.YtdkbalaphblobaaW.PrintMore
attribute [local go_sem] max2_int min2_int max_two min_two max_three min_three max_four min_four   -- for this text's walks alone
set_option linter.unusedVariables false
set_option linter.unusedSimpArgs false

/-! ### plaitinglaw3_ConfAll: function 17 -/
def plaitinglaw3_ConfAll.l0 : Nat → Int → List Int → Int → Int → Int → Int → Int → Int → List Int → Option (Bool)
  | 0, _, _, _, _, _, _, _, _, _ => none
  | k + 1, x2, x8, x9, x34112000, x34112001, x34112002, x34112003, x34112004, x34112005 => if x9 < 2 then (if 0 ≤ x9 then (if x9 < (x8.length : Int) then ((conf_Owners.f k x34112000 x34112001 x34112002 x34112003 x34112004 x34112005 (rd x8 x9)).bind fun t34119 => ((plaitingref3_Owners.f k x34112000 x34112001 x34112002 x34112003 x34112004 x34112005 (rd x8 x9)).bind fun t34123 => ((plaitingref3_Same.f k t34119 t34123).bind fun t34126 => (if t34126 = true then ((conf_Voters.f k x34112000 x34112001 x34112002 x34112003 x34112004 x34112005 (rd x8 x9)).bind fun t34128 => ((plaitingref3_Voters.f k x34112000 x34112001 x34112002 x34112003 x34112004 x34112005 (rd x8 x9)).bind fun t34132 => ((plaitingref3_Same.f k t34128 t34132).bind fun t34135 => (if t34135 = true then (plaitinglaw3_ConfAll.l0 k x2 x8 (wrap64 (x9 + 1)) x34112000 x34112001 x34112002 x34112003 x34112004 x34112005) else (some false))))) else (some false))))) else (none)) else (none)) else ((conf_Slots.f x34112000 x34112001 x34112002 x34112003 x34112004 x34112005).bind fun t34136 => ((plaitingref3_Slots.f x34112000 x34112001 x34112002 x34112003 x34112004 x34112005).bind fun t34137 => (if t34136 = t34137 then ((conf_Most.f x34112000 x34112001 x34112002 x34112003 x34112004 x34112005).bind fun t34138 => ((plaitingref3_Most.f x34112000 x34112001 x34112002 x34112003 x34112004 x34112005).bind fun t34139 => (if t34138 = t34139 then ((conf_Window.f x34112000 x34112001 x34112002 x34112003 x34112004 x34112005).bind fun t34140 => ((plaitingref3_Window.f x34112000 x34112001 x34112002 x34112003 x34112004 x34112005).bind fun t34141 => (if t34140 = t34141 then ((conf_Limit.f x34112000 x34112001 x34112002 x34112003 x34112004 x34112005).bind fun t34142 => ((plaitingref3_Limit.f x34112000 x34112001 x34112002 x34112003 x34112004 x34112005).bind fun t34143 => (if t34142 = t34143 then ((conf_Wire.f x34112000 x34112001 x34112002 x34112003 x34112004 x34112005 x2).bind fun t34144 => ((plaitingref3_Wire.f x34112000 x34112001 x34112002 x34112003 x34112004 x34112005 x2).bind fun t34145 => (some (t34144 == t34145)))) else (some false)))) else (some false)))) else (some false)))) else (some false))))
def plaitinglaw3_ConfAll.f (k : Nat) (a0_0 : Int) (a0_1 : Int) (a0_2 : Int) (a0_3 : Int) (a0_4 : Int) (l0_5 : List Int) (a1 : Int) (a2 : Int) : Option (Bool) := (plaitinglaw3_known.f).bind fun t34102 => (if t34102 = true then ((plaitinglaw3_Make.f k a0_0 a0_1 a0_2 a0_3 a0_4 l0_5).bind fun bt34103 => ((plaitinglaw3_within.f a2 1073741824).bind fun t34112 => ((conf_Slots.f bt34103.1 bt34103.2.1 bt34103.2.2.1 bt34103.2.2.2.1 bt34103.2.2.2.2.1 bt34103.2.2.2.2.2).bind fun t34113 => ((plaitinglaw3_within.f a1 (wrap64 (t34113 + 3))).bind fun t34114 => (plaitinglaw3_ConfAll.l0 k t34112 (([a1, wrap64 (t34114 - 1)] : List Int)) 0 bt34103.1 bt34103.2.1 bt34103.2.2.1 bt34103.2.2.2.1 bt34103.2.2.2.2.1 bt34103.2.2.2.2.2))))) else (some false))
theorem plaitinglaw3_ConfAll.mono_l : ∀ k, (∀ y0 y1 y2 y3 y4 y5 y6 y7 y8, LeO (plaitinglaw3_ConfAll.l0 k y0 y1 y2 y3 y4 y5 y6 y7 y8) (plaitinglaw3_ConfAll.l0 (k + 1) y0 y1 y2 y3 y4 y5 y6 y7 y8))
  | 0 => fun _ _ _ _ _ _ _ _ _ r h => by simp [plaitinglaw3_ConfAll.l0] at h
  | k + 1 => by
    have ih0 := plaitinglaw3_ConfAll.mono_l k
    · intro y0 y1 y2 y3 y4 y5 y6 y7 y8
      unfold plaitinglaw3_ConfAll.l0
      repeat' first
      | (with_reducible exact ih0 _ _ _ _ _ _ _ _ _)
      | (with_reducible exact conf_Owners.mono _ _ _ _ _ _ _ _)
      | (with_reducible exact conf_Voters.mono _ _ _ _ _ _ _ _)
      | (with_reducible exact plaitinglaw3_Make.mono _ _ _ _ _ _ _)
      | (with_reducible exact plaitingref3_Owners.mono _ _ _ _ _ _ _ _)
      | (with_reducible exact plaitingref3_Same.mono _ _ _)
      | (with_reducible exact plaitingref3_Voters.mono _ _ _ _ _ _ _ _)
      | (with_reducible exact LeO.refl _)
      | (with_reducible exact LeO.none _)
      | (with_reducible refine LeO.ite ?_ ?_)
      | (with_reducible refine LeO.bind ?_ (fun _ => ?_))
      | exact ih0 _ _ _ _ _ _ _ _ _
      | exact conf_Owners.mono _ _ _ _ _ _ _ _
      | exact conf_Voters.mono _ _ _ _ _ _ _ _
      | exact plaitinglaw3_Make.mono _ _ _ _ _ _ _
      | exact plaitingref3_Owners.mono _ _ _ _ _ _ _ _
      | exact plaitingref3_Same.mono _ _ _
      | exact plaitingref3_Voters.mono _ _ _ _ _ _ _ _
      | exact LeO.none _
      | refine LeO.ite ?_ ?_
      | refine LeO.bind ?_ (fun _ => ?_)
theorem plaitinglaw3_ConfAll.mono : ∀ a0 a1 a2 a3 a4 a5 a6 a7 k, LeO (plaitinglaw3_ConfAll.f k a0 a1 a2 a3 a4 a5 a6 a7) (plaitinglaw3_ConfAll.f (k + 1) a0 a1 a2 a3 a4 a5 a6 a7) := by
  intro a0 a1 a2 a3 a4 a5 a6 a7 k
  have ih0 := plaitinglaw3_ConfAll.mono_l k
  unfold plaitinglaw3_ConfAll.f
  repeat' first
      | (with_reducible exact ih0 _ _ _ _ _ _ _ _ _)
      | (with_reducible exact conf_Owners.mono _ _ _ _ _ _ _ _)
      | (with_reducible exact conf_Voters.mono _ _ _ _ _ _ _ _)
      | (with_reducible exact plaitinglaw3_Make.mono _ _ _ _ _ _ _)
      | (with_reducible exact plaitingref3_Owners.mono _ _ _ _ _ _ _ _)
      | (with_reducible exact plaitingref3_Same.mono _ _ _)
      | (with_reducible exact plaitingref3_Voters.mono _ _ _ _ _ _ _ _)
      | (with_reducible exact LeO.refl _)
      | (with_reducible exact LeO.none _)
      | (with_reducible refine LeO.ite ?_ ?_)
      | (with_reducible refine LeO.bind ?_ (fun _ => ?_))
      | exact ih0 _ _ _ _ _ _ _ _ _
      | exact conf_Owners.mono _ _ _ _ _ _ _ _
      | exact conf_Voters.mono _ _ _ _ _ _ _ _
      | exact plaitinglaw3_Make.mono _ _ _ _ _ _ _
      | exact plaitingref3_Owners.mono _ _ _ _ _ _ _ _
      | exact plaitingref3_Same.mono _ _ _
      | exact plaitingref3_Voters.mono _ _ _ _ _ _ _ _
      | exact LeO.none _
      | refine LeO.ite ?_ ?_
      | refine LeO.bind ?_ (fun _ => ?_)
def plaitinglaw3_ConfAll.T9 : Bool × List (List Nat × List Nat) := (true, [([], []), ([], []), ([], []), ([1, 2], [1, 2]), ([3], [3]), ([0, 4], [0, 4]), ([], []), ([], []), ([], []), ([7, 8], [7, 8]), ([9], [9]), ([6, 10, 5], [6, 10]), ([5, 11, 11], [5, 11]), ([12], [12]), ([13, 12], [13]), ([14], [14]), ([14], [14]), ([14], [14]), ([16, 17, 14], [14, 16, 17]), ([18, 14], [14, 18]), ([15, 19, 14, 14], [14, 15, 19]), ([14], [14]), ([14], [14]), ([14], [14]), ([22, 23, 14], [14, 22, 23]), ([24, 14], [14, 24]), ([21, 25, 20, 14], [14, 21, 25]), ([20, 26, 26, 14], [14, 20, 26]), ([27, 14], [14, 27]), ([14, 28], [14, 28])])
def plaitinglaw3_ConfAll.B9 : List Nat := [0, 0, 0, 6, 14, 31, 0, 0, 0, 384, 896, 2047, 4095, 8191, 16383, 32767, 32767, 32767, 229375, 491519, 1048575, 32767, 32767, 32767, 12615679, 29392895, 67108863, 134217727, 268435455, 536870911]
theorem plaitinglaw3_ConfAll.tab9 : rtab .any (opsOf Try.f17 9) = plaitinglaw3_ConfAll.T9 := by kernel_rfl
theorem plaitinglaw3_ConfAll.bits9 : waitsOk plaitinglaw3_ConfAll.T9.2 plaitinglaw3_ConfAll.B9 = true := by kernel_rfl
def plaitinglaw3_ConfAll.T11 : Bool × List (List Nat × List Nat) := (true, [([], []), ([0], [0]), ([], []), ([2, 1], [2]), ([1, 3], [1, 3]), ([4, 3], [4]), ([5], [5]), ([6, 5, 5], [5, 6]), ([5], [5]), ([8, 7, 5], [5, 8]), ([7, 9, 5], [5, 7, 9]), ([5, 10], [5, 10]), ([11, 9], [11]), ([12], [12]), ([13, 12, 12], [12, 13]), ([12], [12]), ([15, 14, 12], [12, 15]), ([14, 16, 12], [12, 14, 16]), ([12, 17], [12, 17]), ([18, 16], [18]), ([19], [19]), ([20, 19, 19], [19, 20]), ([19], [19]), ([22, 21, 19], [19, 22]), ([21, 23, 19], [19, 21, 23]), ([19, 24], [19, 24]), ([25, 23], [25]), ([26], [26]), ([26], [26]), ([27, 28, 26, 26], [26, 27, 28]), ([26], [26]), ([26], [26]), ([30, 31, 29, 26], [26, 30, 31]), ([29, 32, 26], [26, 29, 32]), ([26, 33], [26, 33]), ([34, 32, 0, 1, 2, 3, 4, 5, 6, 7, 8, 9, 10, 11, 12, 13, 14, 15, 16, 17, 18, 19, 20, 21, 22, 23, 24, 25, 26, 27, 28, 29, 30, 31, 32, 33, 34], [34])])
def plaitinglaw3_ConfAll.B11 : List Nat := [0, 1, 0, 7, 15, 31, 63, 127, 63, 511, 1023, 2047, 4095, 8191, 16383, 8191, 65535, 131071, 262143, 524287, 1048575, 2097151, 1048575, 8388607, 16777215, 33554431, 67108863, 134217727, 134217727, 536870911, 134217727, 134217727, 4294967295, 8589934591, 17179869183, 34359738367]
theorem plaitinglaw3_ConfAll.tab11 : rtab .any (opsOf Try.f17 11) = plaitinglaw3_ConfAll.T11 := by kernel_rfl
theorem plaitinglaw3_ConfAll.bits11 : waitsOk plaitinglaw3_ConfAll.T11.2 plaitinglaw3_ConfAll.B11 = true := by kernel_rfl
set_option maxHeartbeats 8000000 in
set_option maxRecDepth 100000 in
theorem plaitinglaw3_ConfAll.calls (k : Nat) (a0_0 : Int) (a0_1 : Int) (a0_2 : Int) (a0_3 : Int) (a0_4 : Int) (A0_5 : Option Addr) (c0_5 : Nat) (l0_5 : List Int) (a1 : Int) (a2 : Int) (r : Bool) (w : World) (hr0_5 : Kd.C (Kd.int .i64) w A0_5 l0_5.length l0_5) (hc0_5 : l0_5.length ≤ c0_5) (hrt : r = true) (h : plaitinglaw3_ConfAll.f k a0_0 a0_1 a0_2 a0_3 a0_4 l0_5 a1 a2 = some r) :
    Calls Try.prog 17 #[.agg #[.int .i64 a0_0, .int .i64 a0_1, .int .i64 a0_2, .int .i64 a0_3, .int .i64 a0_4, .slice A0_5 l0_5.length c0_5], .int .i64 a1, .int .i64 a2] w fun e w' => e = .returned (.bool r) ∧ Below w.heap.size w w' := by
  have HRT := Aside0.mk hrt
  clear hrt
  have hu35 := Try.underlying35
  have HR0_5 := Aside0.mk hr0_5
  have HC0_5 := Aside0.mk hc0_5
  clear hr0_5 hc0_5
  have HB := Aside0.mk (Below.refl w.heap.size w)
  have H : ((plaitinglaw3_known.f).bind fun t34102 => (if t34102 = true then ((plaitinglaw3_Make.f k a0_0 a0_1 a0_2 a0_3 a0_4 l0_5).bind fun bt34103 => ((plaitinglaw3_within.f a2 1073741824).bind fun t34112 => ((conf_Slots.f bt34103.1 bt34103.2.1 bt34103.2.2.1 bt34103.2.2.2.1 bt34103.2.2.2.2.1 bt34103.2.2.2.2.2).bind fun t34113 => ((plaitinglaw3_within.f a1 (wrap64 (t34113 + 3))).bind fun t34114 => (plaitinglaw3_ConfAll.l0 k t34112 (([a1, wrap64 (t34114 - 1)] : List Int)) 0 bt34103.1 bt34103.2.1 bt34103.2.2.1 bt34103.2.2.2.1 bt34103.2.2.2.2.1 bt34103.2.2.2.2.2))))) else (some false))) = some r := h
  clear h
  replace H := Option.bind_eq_some_iff.mp H
  obtain ⟨t34102, A40, H⟩ := H
  replace H : (if t34102 = true then ((plaitinglaw3_Make.f k a0_0 a0_1 a0_2 a0_3 a0_4 l0_5).bind fun bt34103 => ((plaitinglaw3_within.f a2 1073741824).bind fun t34112 => ((conf_Slots.f bt34103.1 bt34103.2.1 bt34103.2.2.1 bt34103.2.2.2.1 bt34103.2.2.2.2.1 bt34103.2.2.2.2.2).bind fun t34113 => ((plaitinglaw3_within.f a1 (wrap64 (t34113 + 3))).bind fun t34114 => (plaitinglaw3_ConfAll.l0 k t34112 (([a1, wrap64 (t34114 - 1)] : List Int)) 0 bt34103.1 bt34103.2.1 bt34103.2.2.1 bt34103.2.2.2.1 bt34103.2.2.2.2.1 bt34103.2.2.2.2.2))))) else (some false)) = some r := H
  have A4 := Aside0.mk A40
  clear A40
  by_cases c5 : t34102 = true
  · subst c5
    have H1 : ((plaitinglaw3_Make.f k a0_0 a0_1 a0_2 a0_3 a0_4 l0_5).bind fun bt34103 => ((plaitinglaw3_within.f a2 1073741824).bind fun t34112 => ((conf_Slots.f bt34103.1 bt34103.2.1 bt34103.2.2.1 bt34103.2.2.2.1 bt34103.2.2.2.2.1 bt34103.2.2.2.2.2).bind fun t34113 => ((plaitinglaw3_within.f a1 (wrap64 (t34113 + 3))).bind fun t34114 => (plaitinglaw3_ConfAll.l0 k t34112 (([a1, wrap64 (t34114 - 1)] : List Int)) 0 bt34103.1 bt34103.2.1 bt34103.2.2.1 bt34103.2.2.2.1 bt34103.2.2.2.2.1 bt34103.2.2.2.2.2))))) = some r := by rw [if_pos rfl] at H; exact H
    clear H
    have H := H1
    clear H1
    replace H := Option.bind_eq_some_iff.mp H
    obtain ⟨⟨t34103, t34104, t34105, t34106, t34107, t34108⟩, A60, H⟩ := H
    replace H : ((plaitinglaw3_within.f a2 1073741824).bind fun t34112 => ((conf_Slots.f t34103 t34104 t34105 t34106 t34107 t34108).bind fun t34113 => ((plaitinglaw3_within.f a1 (wrap64 (t34113 + 3))).bind fun t34114 => (plaitinglaw3_ConfAll.l0 k t34112 (([a1, wrap64 (t34114 - 1)] : List Int)) 0 t34103 t34104 t34105 t34106 t34107 t34108)))) = some r := H
    have A6 := Aside0.mk A60
    clear A60
    replace H := Option.bind_eq_some_iff.mp H
    obtain ⟨t34112, A70, H⟩ := H
    replace H : ((conf_Slots.f t34103 t34104 t34105 t34106 t34107 t34108).bind fun t34113 => ((plaitinglaw3_within.f a1 (wrap64 (t34113 + 3))).bind fun t34114 => (plaitinglaw3_ConfAll.l0 k t34112 (([a1, wrap64 (t34114 - 1)] : List Int)) 0 t34103 t34104 t34105 t34106 t34107 t34108))) = some r := H
    have A7 := Aside0.mk A70
    clear A70
    replace H := Option.bind_eq_some_iff.mp H
    obtain ⟨t34113, A80, H⟩ := H
    replace H : ((plaitinglaw3_within.f a1 (wrap64 (t34113 + 3))).bind fun t34114 => (plaitinglaw3_ConfAll.l0 k t34112 (([a1, wrap64 (t34114 - 1)] : List Int)) 0 t34103 t34104 t34105 t34106 t34107 t34108)) = some r := H
    have A8 := Aside0.mk A80
    clear A80
    replace H := Option.bind_eq_some_iff.mp H
    obtain ⟨t34114, A90, H⟩ := H
    replace H : (plaitinglaw3_ConfAll.l0 k t34112 (([a1, wrap64 (t34114 - 1)] : List Int)) 0 t34103 t34104 t34105 t34106 t34107 t34108) = some r := H
    have A9 := Aside0.mk A90
    clear A90
    obtain ⟨y34115, hy34115⟩ : ∃ y_ : List Int, y_ = (([a1, wrap64 (t34114 - 1)] : List Int)) := ⟨_, rfl⟩
    replace H : (plaitinglaw3_ConfAll.l0 k t34112 y34115 0 t34103 t34104 t34105 t34106 t34107 t34108) = some r := by first | (rw [hy34115]; with_reducible exact H) | (have H2_ := (Option.bind_some _ _).symm.trans H; rw [hy34115]; with_reducible exact H2_) | (have H2_ := (Option.bind_some _ _).symm.trans H; with_reducible exact H2_) | with_reducible exact H | (rw [hy34115]; exact H) | exact H
    have Ny34115 := Aside0.mk hy34115
    clear hy34115
    have H' := Aside0.mk H
    clear H
    go_enter Try.func17, Try.ntmps17
    go_wp2_with (first | ((with_reducible refine gate_dst (N := 3) rfl ?_); refine box_event ?hg (N := 3) ?hd (cs := #[.int .i64 a0_0, .int .i64 a0_1, .int .i64 a0_2, .int .i64 a0_3, .int .i64 a0_4, .slice A0_5 l0_5.length c0_5]) (t := 35) ?hr ?_; (case hd => rfl); (case hg => rfl); (case hr => first | (go_simp; done) | (go_simp; rfl)); intro gb34101 hg w10 hbox hb; have n0_ := Aside0.mk (below_step (by repeat (first | (with_reducible first | exact HB.out | apply below_alloc | apply pw_below_drewN | apply below_drew1) | exact HB.out)) hb); have n1_ := Aside0.mk (hbox); have n2_ := Aside0.mk ((by rw [hg]; exact (below_size (by repeat (first | (with_reducible first | exact HB.out | apply below_alloc | apply pw_below_drewN | apply below_drew1) | exact HB.out))) : w.heap.size ≤ gb34101)); have n3_ := Aside0.mk ((by rw [hg]; exact (below_size (by repeat (first | (with_reducible first | exact HB.out | apply below_alloc | apply pw_below_drewN | apply below_drew1) | exact HB.out))) : w.heap.size ≤ gb34101)); clear HB; have HB := n0_; have BK34101 := n1_; have GW34101 := n2_; have GE34101 := n3_; clear n0_ n1_ n2_ n3_; clear hb hbox hg) | ((with_reducible refine gate_callee (f := 25) rfl ?_); refine goesL_ (some 10) rfl rfl Try.func25 (by kernel_rfl) rfl #[] rfl (by (try simp only [List.map_toArray, List.map_cons, List.map_nil]); first | done | rfl | (simp only [List.length_drop, List.length_take]; rfl)) ?_; (with_reducible refine (plaitinglaw3_known.calls  true _ A4.out).mono ?_); rintro e w11 ⟨rfl, hb⟩; refine ⟨_, rfl, ?_⟩; have n0_ := Aside0.mk (blk_below (g := gb34101) (o := .cells #[.int .i64 a0_0, .int .i64 a0_1, .int .i64 a0_2, .int .i64 a0_3, .int .i64 a0_4, .slice A0_5 l0_5.length c0_5] 35 (0, 0)) (by (with_reducible repeat (first | refine blk_drewN ?_ _ | refine blk_drew ?_ | refine blk_alloc ?_ _)); exact BK34101.out) hb); have n1_ := Aside0.mk (below_step (by repeat (first | (with_reducible first | exact HB.out | apply below_alloc | apply pw_below_drewN | apply below_drew1 | refine below_set ?_ GE34101.out) | exact HB.out)) hb); clear BK34101; clear HB; have BK34101 := n0_; have HB := n1_; clear n0_ n1_; (try clear hb); (try clear hb2); (try clear hk); (try clear hi); have hcz12_0 : w11.cell? ⟨gb34101, 0, none⟩ = some (.int .i64 a0_0) := (blk_cell BK34101.out 0).trans rfl; have hcz12_1 : w11.cell? ⟨gb34101, 1, none⟩ = some (.int .i64 a0_1) := (blk_cell BK34101.out 1).trans rfl; have hcz12_2 : w11.cell? ⟨gb34101, 2, none⟩ = some (.int .i64 a0_2) := (blk_cell BK34101.out 2).trans rfl; have hcz12_3 : w11.cell? ⟨gb34101, 3, none⟩ = some (.int .i64 a0_3) := (blk_cell BK34101.out 3).trans rfl; have hcz12_4 : w11.cell? ⟨gb34101, 4, none⟩ = some (.int .i64 a0_4) := (blk_cell BK34101.out 4).trans rfl; have hcz12_5 : w11.cell? ⟨gb34101, 5, none⟩ = some (.slice A0_5 l0_5.length c0_5) := (blk_cell BK34101.out 5).trans rfl; have hfz12_0 := blk_frozen BK34101.out 0; have hfz12_1 := blk_frozen BK34101.out 1; have hfz12_2 := blk_frozen BK34101.out 2; have hfz12_3 := blk_frozen BK34101.out 3; have hfz12_4 := blk_frozen BK34101.out 4; have hfz12_5 := blk_frozen BK34101.out 5) | ((with_reducible refine gate_callee (f := 26) rfl ?_); refine goesL_ (some 13) rfl rfl Try.func26 (by kernel_rfl) rfl #[.agg #[.int .i64 a0_0, .int .i64 a0_1, .int .i64 a0_2, .int .i64 a0_3, .int .i64 a0_4, .slice A0_5 l0_5.length c0_5]] rfl (by (try simp only [List.map_toArray, List.map_cons, List.map_nil]); first | done | rfl | (simp only [List.length_drop, List.length_take]; rfl)) ?_; (with_reducible refine (plaitinglaw3_Make.calls k a0_0 a0_1 a0_2 a0_3 a0_4 _ _ l0_5 t34103 t34104 t34105 t34106 t34107 t34108 _ ?side1 ?side2 A6.out).mono ?_); (case side1 => repeat (first | exact (Kd.C_below HR0_5.out HB.out) | (with_reducible refine Kd.C_alloc ?_ _) | (with_reducible refine Kd.C_drewN ?_ _) | (with_reducible refine Kd.C_drew ?_))); (case side2 => exact HC0_5.out); rintro e w13 ⟨v34109, rfl, ho0, hb⟩; refine ⟨_, rfl, ?_⟩; have n0_ := Aside0.mk (Kd.R_lower ho0 (below_size (by repeat (first | (with_reducible first | exact HB.out | apply below_alloc | apply pw_below_drewN | apply below_drew1 | refine below_set ?_ GE34101.out) | exact HB.out)))); have n1_ := Aside0.mk (blk_below (g := gb34101) (o := .cells #[.int .i64 a0_0, .int .i64 a0_1, .int .i64 a0_2, .int .i64 a0_3, .int .i64 a0_4, .slice A0_5 l0_5.length c0_5] 35 (0, 0)) (by (with_reducible repeat (first | refine blk_drewN ?_ _ | refine blk_drew ?_ | refine blk_alloc ?_ _)); exact BK34101.out) hb); have n2_ := Aside0.mk (below_step (by repeat (first | (with_reducible first | exact HB.out | apply below_alloc | apply pw_below_drewN | apply below_drew1 | refine below_set ?_ GE34101.out) | exact HB.out)) hb); clear BK34101; clear HB; have HO34110 := n0_; have BK34101 := n1_; have HB := n2_; clear n0_ n1_ n2_; (try clear hb); (try clear hb2); (try clear hk); (try clear hi); (try clear ho0)) | ((with_reducible refine gate_dst (N := 7) rfl ?_); refine box_event ?hg (N := 7) ?hd (cs := #[.int .i64 0, .int .i64 0, .int .i64 0, .int .i64 0, .int .i64 0, .slice none 0 0]) (t := 35) ?hr ?_; (case hd => rfl); (case hg => rfl); (case hr => first | (go_simp; done) | (go_simp; rfl)); intro gb34111 hg w14 hbox hb; have n0_ := Aside0.mk (Kd.R_below (by (with_reducible repeat (first | apply Kd.R_alloc | apply Kd.R_drewN | apply Kd.R_drew)); exact HO34110.out) hb); have n1_ := Aside0.mk (blk_below (g := gb34101) (o := .cells #[.int .i64 a0_0, .int .i64 a0_1, .int .i64 a0_2, .int .i64 a0_3, .int .i64 a0_4, .slice A0_5 l0_5.length c0_5] 35 (0, 0)) (by (with_reducible repeat (first | refine blk_drewN ?_ _ | refine blk_drew ?_ | refine blk_alloc ?_ _)); exact BK34101.out) hb); have n2_ := Aside0.mk (below_step (by repeat (first | (with_reducible first | exact HB.out | apply below_alloc | apply pw_below_drewN | apply below_drew1 | refine below_set ?_ GE34101.out) | exact HB.out)) hb); have n3_ := Aside0.mk (hbox); have n4_ := Aside0.mk ((by rw [hg]; exact (below_size (by repeat (first | (with_reducible first | exact HB.out | apply below_alloc | apply pw_below_drewN | apply below_drew1 | refine below_set ?_ GE34101.out) | exact HB.out))) : w.heap.size ≤ gb34111)); have n5_ := Aside0.mk ((by rw [hg]; exact (below_size (by repeat (first | (with_reducible first | exact HB.out | apply below_alloc | apply pw_below_drewN | apply below_drew1 | refine below_set ?_ GE34101.out) | exact HB.out))) : w.heap.size ≤ gb34111)); have n6_ := Aside0.mk ((by rw [hg]; exact Nat.ne_of_lt (blk_lt (g := gb34101) (o := .cells #[.int .i64 a0_0, .int .i64 a0_1, .int .i64 a0_2, .int .i64 a0_3, .int .i64 a0_4, .slice A0_5 l0_5.length c0_5] 35 (0, 0)) (by (with_reducible repeat (first | refine blk_drewN ?_ _ | refine blk_drew ?_ | refine blk_alloc ?_ _)); exact BK34101.out)) : gb34101 ≠ gb34111)); have n7_ := Aside0.mk ((by rw [hg]; exact Nat.ne_of_gt (blk_lt (g := gb34101) (o := .cells #[.int .i64 a0_0, .int .i64 a0_1, .int .i64 a0_2, .int .i64 a0_3, .int .i64 a0_4, .slice A0_5 l0_5.length c0_5] 35 (0, 0)) (by (with_reducible repeat (first | refine blk_drewN ?_ _ | refine blk_drew ?_ | refine blk_alloc ?_ _)); exact BK34101.out)) : gb34111 ≠ gb34101)); clear HO34110; clear BK34101; clear HB; have HO34110 := n0_; have BK34101 := n1_; have HB := n2_; have BK34111 := n3_; have GW34111 := n4_; have GE34111 := n5_; have NB34101_34111 := n6_; have NB34111_34101 := n7_; clear n0_ n1_ n2_ n3_ n4_ n5_ n6_ n7_; clear hb hbox hg; have hnb15 := NB34111_34101.out; have hnc15 := NB34101_34111.out; have hcz16_0 : w14.cell? ⟨gb34111, 0, none⟩ = some (.int .i64 0) := (blk_cell BK34111.out 0).trans rfl; have hcz16_1 : w14.cell? ⟨gb34111, 1, none⟩ = some (.int .i64 0) := (blk_cell BK34111.out 1).trans rfl; have hcz16_2 : w14.cell? ⟨gb34111, 2, none⟩ = some (.int .i64 0) := (blk_cell BK34111.out 2).trans rfl; have hcz16_3 : w14.cell? ⟨gb34111, 3, none⟩ = some (.int .i64 0) := (blk_cell BK34111.out 3).trans rfl; have hcz16_4 : w14.cell? ⟨gb34111, 4, none⟩ = some (.int .i64 0) := (blk_cell BK34111.out 4).trans rfl; have hcz16_5 : w14.cell? ⟨gb34111, 5, none⟩ = some (.slice none 0 0) := (blk_cell BK34111.out 5).trans rfl; have hfz16_0 := blk_frozen BK34111.out 0; have hfz16_1 := blk_frozen BK34111.out 1; have hfz16_2 := blk_frozen BK34111.out 2; have hfz16_3 := blk_frozen BK34111.out 3; have hfz16_4 := blk_frozen BK34111.out 4; have hfz16_5 := blk_frozen BK34111.out 5; obtain ⟨Ao17, co17, eo17⟩ := Kd.R_slice HO34110.out; subst eo17) | ((with_reducible refine gate_callee (f := 29) rfl ?_); refine goesL_ (some 15) rfl rfl Try.func29 (by kernel_rfl) rfl #[.int .i64 a2, .int .i64 1073741824] rfl (by (try simp only [List.map_toArray, List.map_cons, List.map_nil]); first | done | rfl | (simp only [List.length_drop, List.length_take]; rfl)) ?_; (with_reducible refine (plaitinglaw3_within.calls a2 1073741824 t34112 _ A7.out).mono ?_); rintro e w' ⟨rfl, ⟨nd, rfl⟩⟩; refine ⟨_, rfl, ?_⟩) | ((with_reducible refine gate_callee (f := 54) rfl ?_); refine goesL_ (some 19) rfl rfl Try.func54 (by kernel_rfl) rfl #[.agg #[.int .i64 t34103, .int .i64 t34104, .int .i64 t34105, .int .i64 t34106, .int .i64 t34107, .slice Ao17 t34108.length co17]] rfl (by (try simp only [List.map_toArray, List.map_cons, List.map_nil]); first | done | rfl | (simp only [List.length_drop, List.length_take]; rfl)) ?_; (with_reducible refine (conf_Slots.calls t34103 t34104 t34105 t34106 t34107 _ _ t34108 t34113 _ ?side1 ?side2 A8.out).mono ?_); (case side1 => refine (Kd.R_reads' (e := 3) (base := w.heap.size) (ok := fun k_ => True) (n := t34108.length) (c := co17) ?_).2.2; exact (by (with_reducible repeat (first | apply Kd.R_alloc | apply Kd.R_drewN | apply Kd.R_drew)); exact (Kd.R_mono (Kd.R_far (p := ⟨gb34111, 5, none⟩) (Kd.R_far (p := ⟨gb34111, 4, none⟩) (Kd.R_far (p := ⟨gb34111, 3, none⟩) (Kd.R_far (p := ⟨gb34111, 2, none⟩) (Kd.R_far (p := ⟨gb34111, 1, none⟩) (Kd.R_far (p := ⟨gb34111, 0, none⟩) (Kd.R_types HO34110.out BK34111.out (by decide)) (fun _ hk => hk.2) (.int .i64 t34103)) (fun _ hk => hk.2) (.int .i64 t34104)) (fun _ hk => hk.2) (.int .i64 t34105)) (fun _ hk => hk.2) (.int .i64 t34106)) (fun _ hk => hk.2) (.int .i64 t34107)) (fun _ hk => hk.2) (.slice Ao17 t34108.length co17)) (fun _ h_ => h_.1)))); (case side2 => exact (Kd.R_reads' HO34110.out).2.1); rintro e w18 ⟨rfl, hb⟩; refine ⟨_, rfl, ?_⟩; have n0_ := Aside0.mk (Kd.R_below (by (with_reducible repeat (first | apply Kd.R_alloc | apply Kd.R_drewN | apply Kd.R_drew)); exact (Kd.R_mono (Kd.R_far (p := ⟨gb34111, 5, none⟩) (Kd.R_far (p := ⟨gb34111, 4, none⟩) (Kd.R_far (p := ⟨gb34111, 3, none⟩) (Kd.R_far (p := ⟨gb34111, 2, none⟩) (Kd.R_far (p := ⟨gb34111, 1, none⟩) (Kd.R_far (p := ⟨gb34111, 0, none⟩) (Kd.R_types HO34110.out BK34111.out (by decide)) (fun _ hk => hk.2) (.int .i64 t34103)) (fun _ hk => hk.2) (.int .i64 t34104)) (fun _ hk => hk.2) (.int .i64 t34105)) (fun _ hk => hk.2) (.int .i64 t34106)) (fun _ hk => hk.2) (.int .i64 t34107)) (fun _ hk => hk.2) (.slice Ao17 t34108.length co17)) (fun _ h_ => h_.1))) hb); have n1_ := Aside0.mk (blk_below (g := gb34101) (o := .cells #[.int .i64 a0_0, .int .i64 a0_1, .int .i64 a0_2, .int .i64 a0_3, .int .i64 a0_4, .slice A0_5 l0_5.length c0_5] 35 (0, 0)) (by (with_reducible repeat (first | refine blk_drewN ?_ _ | refine blk_drew ?_ | refine blk_alloc ?_ _)); refine blk_far ?_ NB34101_34111.out _; (with_reducible repeat (first | refine blk_drewN ?_ _ | refine blk_drew ?_ | refine blk_alloc ?_ _)); refine blk_far ?_ NB34101_34111.out _; (with_reducible repeat (first | refine blk_drewN ?_ _ | refine blk_drew ?_ | refine blk_alloc ?_ _)); refine blk_far ?_ NB34101_34111.out _; (with_reducible repeat (first | refine blk_drewN ?_ _ | refine blk_drew ?_ | refine blk_alloc ?_ _)); refine blk_far ?_ NB34101_34111.out _; (with_reducible repeat (first | refine blk_drewN ?_ _ | refine blk_drew ?_ | refine blk_alloc ?_ _)); refine blk_far ?_ NB34101_34111.out _; (with_reducible repeat (first | refine blk_drewN ?_ _ | refine blk_drew ?_ | refine blk_alloc ?_ _)); refine blk_far ?_ NB34101_34111.out _; (with_reducible repeat (first | refine blk_drewN ?_ _ | refine blk_drew ?_ | refine blk_alloc ?_ _)); exact BK34101.out) hb); have n2_ := Aside0.mk (blk_below (g := gb34111) (o := .cells #[.int .i64 t34103, .int .i64 t34104, .int .i64 t34105, .int .i64 t34106, .int .i64 t34107, .slice Ao17 t34108.length co17] 35 (0, 0)) (by (with_reducible repeat (first | refine blk_drewN ?_ _ | refine blk_drew ?_ | refine blk_alloc ?_ _)); refine blk_put (cs := #[.int .i64 t34103, .int .i64 t34104, .int .i64 t34105, .int .i64 t34106, .int .i64 t34107, .slice none 0 0]) ?_ 5 _ rfl; (with_reducible repeat (first | refine blk_drewN ?_ _ | refine blk_drew ?_ | refine blk_alloc ?_ _)); refine blk_put (cs := #[.int .i64 t34103, .int .i64 t34104, .int .i64 t34105, .int .i64 t34106, .int .i64 0, .slice none 0 0]) ?_ 4 _ rfl; (with_reducible repeat (first | refine blk_drewN ?_ _ | refine blk_drew ?_ | refine blk_alloc ?_ _)); refine blk_put (cs := #[.int .i64 t34103, .int .i64 t34104, .int .i64 t34105, .int .i64 0, .int .i64 0, .slice none 0 0]) ?_ 3 _ rfl; (with_reducible repeat (first | refine blk_drewN ?_ _ | refine blk_drew ?_ | refine blk_alloc ?_ _)); refine blk_put (cs := #[.int .i64 t34103, .int .i64 t34104, .int .i64 0, .int .i64 0, .int .i64 0, .slice none 0 0]) ?_ 2 _ rfl; (with_reducible repeat (first | refine blk_drewN ?_ _ | refine blk_drew ?_ | refine blk_alloc ?_ _)); refine blk_put (cs := #[.int .i64 t34103, .int .i64 0, .int .i64 0, .int .i64 0, .int .i64 0, .slice none 0 0]) ?_ 1 _ rfl; (with_reducible repeat (first | refine blk_drewN ?_ _ | refine blk_drew ?_ | refine blk_alloc ?_ _)); refine blk_put (cs := #[.int .i64 0, .int .i64 0, .int .i64 0, .int .i64 0, .int .i64 0, .slice none 0 0]) ?_ 0 _ rfl; (with_reducible repeat (first | refine blk_drewN ?_ _ | refine blk_drew ?_ | refine blk_alloc ?_ _)); exact BK34111.out) hb); have n3_ := Aside0.mk (below_step (by repeat (first | (with_reducible first | exact HB.out | apply below_alloc | apply pw_below_drewN | apply below_drew1 | refine below_set ?_ GE34101.out | refine below_set ?_ GE34111.out) | exact HB.out)) hb); clear HO34110; clear BK34101; clear BK34111; clear HB; have HO34110 := n0_; have BK34101 := n1_; have BK34111 := n2_; have HB := n3_; clear n0_ n1_ n2_ n3_; (try clear hb); (try clear hb2); (try clear hk); (try clear hi)) | ((with_reducible refine gate_callee (f := 29) rfl ?_); refine goesL_ (some 21) rfl rfl Try.func29 (by kernel_rfl) rfl #[.int .i64 a1, .int .i64 (wrap64 (t34113 + 3))] rfl (by (try simp only [List.map_toArray, List.map_cons, List.map_nil]); first | done | rfl | (simp only [List.length_drop, List.length_take]; rfl)) ?_; (with_reducible refine (plaitinglaw3_within.calls a1 (wrap64 (t34113 + 3)) t34114 _ A9.out).mono ?_); rintro e w' ⟨rfl, ⟨nd, rfl⟩⟩; refine ⟨_, rfl, ?_⟩) | ((with_reducible refine gate_dst (N := 23) rfl ?_); refine Kd.R_lit (Kd.int .i64) _ 3 ?hg (N := 23) ?hd (xs := ([a1, wrap64 (t34114 - 1)] : List Int)) (inner := [.int .i64 a1, .int .i64 (wrap64 (t34114 - 1))]) (ok := fun _ => True) (okp := fun _ => True) ?hr ?hp (fun _ hk => hk) trivial (Below.refl _ _) (Nat.le_refl _) (by simp) ?_; (case hd => rfl); (case hg => rfl); (case hr => first | (go_simp; done) | (go_simp; rfl)); (case hp => exact (Reps.one (show Kd.M (Kd.int .i64) _ _ _ a1 [.int .i64 a1] from rfl) (Reps.one (show Kd.M (Kd.int .i64) _ _ _ (wrap64 (t34114 - 1)) [.int .i64 (wrap64 (t34114 - 1))] from rfl) (Reps.none _ _)))); intro v34116 w19 ho20 hb hg_ hnew_; clear hg_ hnew_; (first | rw [← Ny34115.out] at ho20 | (simp only [Int.reduceToNat] at ho20; rw [← Ny34115.out] at ho20)); have n0_ := Aside0.mk (Kd.R_elder' (by (with_reducible repeat (first | apply Kd.R_alloc | apply Kd.R_drewN | apply Kd.R_drew)); exact HO34110.out) (Kd.R_base ho20) hb); have n1_ := Aside0.mk (Kd.R_lower (Kd.R_new' ho20 (Kd.R_lt (by (with_reducible repeat (first | apply Kd.R_alloc | apply Kd.R_drewN | apply Kd.R_drew)); exact HO34110.out))) (below_size (by repeat (first | (with_reducible first | exact HB.out | apply below_alloc | apply pw_below_drewN | apply below_drew1 | refine below_set ?_ GE34101.out | refine below_set ?_ GE34111.out) | exact HB.out)))); have n2_ := Aside0.mk (blk_below (g := gb34101) (o := .cells #[.int .i64 a0_0, .int .i64 a0_1, .int .i64 a0_2, .int .i64 a0_3, .int .i64 a0_4, .slice A0_5 l0_5.length c0_5] 35 (0, 0)) (by (with_reducible repeat (first | refine blk_drewN ?_ _ | refine blk_drew ?_ | refine blk_alloc ?_ _)); exact BK34101.out) hb); have n3_ := Aside0.mk (blk_below (g := gb34111) (o := .cells #[.int .i64 t34103, .int .i64 t34104, .int .i64 t34105, .int .i64 t34106, .int .i64 t34107, .slice Ao17 t34108.length co17] 35 (0, 0)) (by (with_reducible repeat (first | refine blk_drewN ?_ _ | refine blk_drew ?_ | refine blk_alloc ?_ _)); exact BK34111.out) hb); have n4_ := Aside0.mk (below_step (by repeat (first | (with_reducible first | exact HB.out | apply below_alloc | apply pw_below_drewN | apply below_drew1 | refine below_set ?_ GE34101.out | refine below_set ?_ GE34111.out) | exact HB.out)) hb); clear HO34110; clear BK34101; clear BK34111; clear HB; have HO34110 := n0_; have HO34117 := n1_; have BK34101 := n2_; have BK34111 := n3_; have HB := n4_; clear n0_ n1_ n2_ n3_ n4_; clear hb ho20))
    go_loopg [9] k (fun kq v9 w' => ∃ (x9_1 : Int), v9 = .int .i64 x9_1 ∧ Aside0 (plaitinglaw3_ConfAll.l0 kq t34112 y34115 x9_1 t34103 t34104 t34105 t34106 t34107 t34108 = some r) ∧ Aside0 (kq ≤ k) ∧ Aside0 (Kd.R (Kd.int .i64) 3 w' w.heap.size (fun k_ => some k_ ≠ ((.slice Ao17 t34108.length co17) : Value).ownBlock) v34116 y34115) ∧ Aside0 (Kd.R (Kd.int .i64) 3 w' w.heap.size (fun k_ => some k_ ≠ (v34116 : Value).ownBlock) (.slice Ao17 t34108.length co17) t34108) ∧ Aside0 (w'.heap[gb34101]? = some (.cells #[.int .i64 a0_0, .int .i64 a0_1, .int .i64 a0_2, .int .i64 a0_3, .int .i64 a0_4, (.slice A0_5 l0_5.length c0_5)] 35 (0, 0))) ∧ Aside0 (w'.heap[gb34111]? = some (.cells #[.int .i64 t34103, .int .i64 t34104, .int .i64 t34105, .int .i64 t34106, .int .i64 t34107, (.slice Ao17 t34108.length co17)] 35 (0, 0))) ∧ Aside0 (Below w.heap.size w w'))
    case atStart => exact ⟨(0), (by first | rfl | (simp; done) | (simp [*]; done)), H', ⟨Nat.le_refl _⟩, ⟨by (with_reducible repeat (first | apply Kd.R_alloc | apply Kd.R_drewN | apply Kd.R_drew)); exact Kd.R_mono HO34117.out (fun _ hk => hk.2)⟩, ⟨by (with_reducible repeat (first | apply Kd.R_alloc | apply Kd.R_drewN | apply Kd.R_drew)); exact Kd.R_mono HO34110.out (fun _ hk => hk.2)⟩, ⟨by (with_reducible repeat (first | refine blk_drewN ?_ _ | refine blk_drew ?_ | refine blk_alloc ?_ _)); exact BK34101.out⟩, ⟨by (with_reducible repeat (first | refine blk_drewN ?_ _ | refine blk_drew ?_ | refine blk_alloc ?_ _)); exact BK34111.out⟩, ⟨by repeat (first | (with_reducible first | exact HB.out | apply below_alloc | apply pw_below_drewN | apply below_drew1 | refine below_set ?_ GE34101.out | refine below_set ?_ GE34111.out) | exact HB.out)⟩⟩
    case round =>
      clear H'
      try clear c1
      try clear c2
      try clear p2
      try clear c5
      try clear p6
      try clear c15
      try clear c17
      try clear hcz12_0
      try clear hcz12_1
      try clear hcz12_2
      try clear hcz12_3
      try clear hcz12_4
      try clear hcz12_5
      try clear hcz16_0
      try clear hcz16_1
      try clear hcz16_2
      try clear hcz16_3
      try clear hcz16_4
      try clear hcz16_5
      try clear hfz12_0
      try clear hfz12_1
      try clear hfz12_2
      try clear hfz12_3
      try clear hfz12_4
      try clear hfz12_5
      try clear hfz16_0
      try clear hfz16_1
      try clear hfz16_2
      try clear hfz16_3
      try clear hfz16_4
      try clear hfz16_5
      obtain ⟨x9_1, rfl, HA, HK1, HO_8, HO_34112005, BK34101, BK34111, HB⟩ := hrel
      cases gk with
      | zero => exact absurd HA.out (by simp [plaitinglaw3_ConfAll.l0])
      | succ k1 =>
        have H := HA.out
        clear HA
        simp only [plaitinglaw3_ConfAll.l0] at H
        by_cases c21 : x9_1 < 2
        · rw [if_pos c21] at H
          have c21b0 : decide (x9_1 < 2) = true := decide_eq_true c21
          clear c21
          by_cases c22 : 0 ≤ x9_1
          · rw [if_pos c22] at H
            have c22b0 : decide (0 ≤ x9_1) = true := decide_eq_true c22
            clear c22
            by_cases c23 : x9_1 < (y34115.length : Int)
            · rw [if_pos c23] at H
              have c23b0 : decide (x9_1 < (y34115.length : Int)) = true := decide_eq_true c23
              clear c23
              replace H := Option.bind_eq_some_iff.mp H
              obtain ⟨t34119, A240, H⟩ := H
              replace H : ((plaitingref3_Owners.f k1 t34103 t34104 t34105 t34106 t34107 t34108 (rd y34115 x9_1)).bind fun t34123 => ((plaitingref3_Same.f k1 t34119 t34123).bind fun t34126 => (if t34126 = true then ((conf_Voters.f k1 t34103 t34104 t34105 t34106 t34107 t34108 (rd y34115 x9_1)).bind fun t34128 => ((plaitingref3_Voters.f k1 t34103 t34104 t34105 t34106 t34107 t34108 (rd y34115 x9_1)).bind fun t34132 => ((plaitingref3_Same.f k1 t34128 t34132).bind fun t34135 => (if t34135 = true then (plaitinglaw3_ConfAll.l0 k1 t34112 y34115 (wrap64 (x9_1 + 1)) t34103 t34104 t34105 t34106 t34107 t34108) else (some false))))) else (some false)))) = some r := H
              have A24 := Aside0.mk A240
              clear A240
              replace H := Option.bind_eq_some_iff.mp H
              obtain ⟨t34123, A250, H⟩ := H
              replace H : ((plaitingref3_Same.f k1 t34119 t34123).bind fun t34126 => (if t34126 = true then ((conf_Voters.f k1 t34103 t34104 t34105 t34106 t34107 t34108 (rd y34115 x9_1)).bind fun t34128 => ((plaitingref3_Voters.f k1 t34103 t34104 t34105 t34106 t34107 t34108 (rd y34115 x9_1)).bind fun t34132 => ((plaitingref3_Same.f k1 t34128 t34132).bind fun t34135 => (if t34135 = true then (plaitinglaw3_ConfAll.l0 k1 t34112 y34115 (wrap64 (x9_1 + 1)) t34103 t34104 t34105 t34106 t34107 t34108) else (some false))))) else (some false))) = some r := H
              have A25 := Aside0.mk A250
              clear A250
              replace H := Option.bind_eq_some_iff.mp H
              obtain ⟨t34126, A260, H⟩ := H
              replace H : (if t34126 = true then ((conf_Voters.f k1 t34103 t34104 t34105 t34106 t34107 t34108 (rd y34115 x9_1)).bind fun t34128 => ((plaitingref3_Voters.f k1 t34103 t34104 t34105 t34106 t34107 t34108 (rd y34115 x9_1)).bind fun t34132 => ((plaitingref3_Same.f k1 t34128 t34132).bind fun t34135 => (if t34135 = true then (plaitinglaw3_ConfAll.l0 k1 t34112 y34115 (wrap64 (x9_1 + 1)) t34103 t34104 t34105 t34106 t34107 t34108) else (some false))))) else (some false)) = some r := H
              have A26 := Aside0.mk A260
              clear A260
              by_cases c27 : t34126 = true
              · subst c27
                have H1 : ((conf_Voters.f k1 t34103 t34104 t34105 t34106 t34107 t34108 (rd y34115 x9_1)).bind fun t34128 => ((plaitingref3_Voters.f k1 t34103 t34104 t34105 t34106 t34107 t34108 (rd y34115 x9_1)).bind fun t34132 => ((plaitingref3_Same.f k1 t34128 t34132).bind fun t34135 => (if t34135 = true then (plaitinglaw3_ConfAll.l0 k1 t34112 y34115 (wrap64 (x9_1 + 1)) t34103 t34104 t34105 t34106 t34107 t34108) else (some false))))) = some r := by rw [if_pos rfl] at H; exact H
                clear H
                have H := H1
                clear H1
                replace H := Option.bind_eq_some_iff.mp H
                obtain ⟨t34128, A280, H⟩ := H
                replace H : ((plaitingref3_Voters.f k1 t34103 t34104 t34105 t34106 t34107 t34108 (rd y34115 x9_1)).bind fun t34132 => ((plaitingref3_Same.f k1 t34128 t34132).bind fun t34135 => (if t34135 = true then (plaitinglaw3_ConfAll.l0 k1 t34112 y34115 (wrap64 (x9_1 + 1)) t34103 t34104 t34105 t34106 t34107 t34108) else (some false)))) = some r := H
                have A28 := Aside0.mk A280
                clear A280
                replace H := Option.bind_eq_some_iff.mp H
                obtain ⟨t34132, A290, H⟩ := H
                replace H : ((plaitingref3_Same.f k1 t34128 t34132).bind fun t34135 => (if t34135 = true then (plaitinglaw3_ConfAll.l0 k1 t34112 y34115 (wrap64 (x9_1 + 1)) t34103 t34104 t34105 t34106 t34107 t34108) else (some false))) = some r := H
                have A29 := Aside0.mk A290
                clear A290
                replace H := Option.bind_eq_some_iff.mp H
                obtain ⟨t34135, A300, H⟩ := H
                replace H : (if t34135 = true then (plaitinglaw3_ConfAll.l0 k1 t34112 y34115 (wrap64 (x9_1 + 1)) t34103 t34104 t34105 t34106 t34107 t34108) else (some false)) = some r := H
                have A30 := Aside0.mk A300
                clear A300
                by_cases c31 : t34135 = true
                · subst c31
                  have H1 : (plaitinglaw3_ConfAll.l0 k1 t34112 y34115 (wrap64 (x9_1 + 1)) t34103 t34104 t34105 t34106 t34107 t34108) = some r := by rw [if_pos rfl] at H; exact H
                  clear H
                  have H := H1
                  clear H1
                  have H' := Aside0.mk H
                  clear H
                  try go_wp2
                  have n0_ := Aside0.mk (Kd.R_drew HO_8.out)
                  have n1_ := Aside0.mk (Kd.R_drew HO_34112005.out)
                  have n2_ := Aside0.mk (blk_drew BK34101.out)
                  have n3_ := Aside0.mk (blk_drew BK34111.out)
                  have n4_ := Aside0.mk (below_drew1 HB.out)
                  clear HO_8
                  clear HO_34112005
                  clear BK34101
                  clear BK34111
                  clear HB
                  have HO_8 := n0_
                  have HO_34112005 := n1_
                  have BK34101 := n2_
                  have BK34111 := n3_
                  have HB := n4_
                  clear n0_ n1_ n2_ n3_ n4_
                  obtain ⟨Ao33, co33, eo33⟩ := Kd.R_slice HO_8.out
                  (first | subst eo33 | (injection eo33 with f1_ f2_ f3_; have f4_ := f1_.symm; have f5_ := f3_.symm; clear f1_ f2_ f3_; subst f4_; subst f5_))
                  have p34118 : 0 ≤ (x9_1 : Int) := of_decide_eq_true (by first | (with_reducible assumption) | assumption)
                  have q34118 : x9_1 < (y34115.length : Int) := of_decide_eq_true (by first | (with_reducible assumption) | assumption)
                  obtain ⟨ad34118, e34118, hx34118_0⟩ := Kd.at_int (Kd.R_reads' HO_8.out).2.2 x9_1 p34118 q34118
                  cases e34118
                  replace p34118 := eq_true p34118
                  replace q34118 := eq_true q34118
                  have p34122 : 0 ≤ (x9_1 : Int) := of_decide_eq_true (by first | (with_reducible assumption) | assumption)
                  have q34122 : x9_1 < (y34115.length : Int) := of_decide_eq_true (by first | (with_reducible assumption) | assumption)
                  obtain ⟨ad34122, e34122, hx34122_0⟩ := Kd.at_int (Kd.R_reads' HO_8.out).2.2 x9_1 p34122 q34122
                  obtain rfl : ad34118 = ad34122 := (by injection e34122)
                  replace p34122 := eq_true p34122
                  replace q34122 := eq_true q34122
                  have p34127 : 0 ≤ (x9_1 : Int) := of_decide_eq_true (by first | (with_reducible assumption) | assumption)
                  have q34127 : x9_1 < (y34115.length : Int) := of_decide_eq_true (by first | (with_reducible assumption) | assumption)
                  obtain ⟨ad34127, e34127, hx34127_0⟩ := Kd.at_int (Kd.R_reads' HO_8.out).2.2 x9_1 p34127 q34127
                  obtain rfl : ad34118 = ad34127 := (by injection e34127)
                  replace p34127 := eq_true p34127
                  replace q34127 := eq_true q34127
                  have p34131 : 0 ≤ (x9_1 : Int) := of_decide_eq_true (by first | (with_reducible assumption) | assumption)
                  have q34131 : x9_1 < (y34115.length : Int) := of_decide_eq_true (by first | (with_reducible assumption) | assumption)
                  obtain ⟨ad34131, e34131, hx34131_0⟩ := Kd.at_int (Kd.R_reads' HO_8.out).2.2 x9_1 p34131 q34131
                  obtain rfl : ad34118 = ad34131 := (by injection e34131)
                  replace p34131 := eq_true p34131
                  replace q34131 := eq_true q34131
                  refine start_ (n := 30) (S := fun w' => w'.cell? ⟨gb34111, 0, none⟩ = some (.int .i64 t34103) ∧ w'.cell? ⟨gb34111, 1, none⟩ = some (.int .i64 t34104) ∧ w'.cell? ⟨gb34111, 2, none⟩ = some (.int .i64 t34105) ∧ w'.cell? ⟨gb34111, 3, none⟩ = some (.int .i64 t34106) ∧ w'.cell? ⟨gb34111, 4, none⟩ = some (.int .i64 t34107) ∧ w'.cell? ⟨gb34111, 5, none⟩ = some (.slice Ao17 t34108.length co17) ∧ w'.cell? (ad34118.add (x9_1).toNat) = some (.int .i64 (rd y34115 x9_1)) ∧ w'.cell? (ad34118.add (x9_1).toNat) = some (.int .i64 (rd y34115 x9_1)) ∧ w'.cell? (ad34118.add (x9_1).toNat) = some (.int .i64 (rd y34115 x9_1)) ∧ w'.cell? (ad34118.add (x9_1).toNat) = some (.int .i64 (rd y34115 x9_1))) (ds := []) #[false, false, false, false, false, false, false, false, false, false, false, false, false, false, false, false, false, false, false, false, false, false, false, false, false, false, false, false, false, false] (by kernel_rfl) rfl rfl ⟨(blk_cell BK34111.out 0).trans rfl, (blk_cell BK34111.out 1).trans rfl, (blk_cell BK34111.out 2).trans rfl, (blk_cell BK34111.out 3).trans rfl, (blk_cell BK34111.out 4).trans rfl, (blk_cell BK34111.out 5).trans rfl, hx34118_0, hx34122_0, hx34127_0, hx34131_0⟩ (fun hHeld => ?_); refine with_tabW plaitinglaw3_ConfAll.tab9 plaitinglaw3_ConfAll.bits9 (fun HT_ HW_ => ?_)
                  generalize wr.drew = w32 at HO_8 HO_34112005 BK34101 BK34111 HB hx34118_0 hx34122_0 hx34127_0 hx34131_0 hHeld ⊢
                  refine pure_ (i := 1) (N := some 29) (v := ?_) (a' := ?_) #[false, true, false, false, false, false, false, false, false, false, false, false, false, false, false, false, false, false, false, false, false, false, false, false, false, false, false, false, false, false] rfl rfl (any_of HT_.out (by kernel_rfl)) (fun _ _ _ h => h) (Or.inl ⟨by rfl, ?_⟩) ?_ ?_
                  rotate_left
                  · intro w'
                    go_simp
                    with_reducible rfl
                  rotate_left
                  · simp only [Act.put, List.setIfInBounds_toArray, List.set_cons_zero, List.set_cons_succ, i64_w, i32_w]
                    rfl
                  refine pure_ (i := 2) (N := some 30) (v := ?_) (a' := ?_) #[false, true, true, false, false, false, false, false, false, false, false, false, false, false, false, false, false, false, false, false, false, false, false, false, false, false, false, false, false, false] rfl rfl (any_of HT_.out (by kernel_rfl)) (fun _ _ _ h => h) (Or.inl ⟨by rfl, ?_⟩) ?_ ?_
                  rotate_left
                  · intro w'
                    go_simp
                    with_reducible rfl
                  rotate_left
                  · simp only [Act.put, List.setIfInBounds_toArray, List.set_cons_zero, List.set_cons_succ, i64_w, i32_w]
                    rfl
                  refine pure_ (i := 3) (N := some 31) (v := ?_) (a' := ?_) #[false, true, true, true, false, false, false, false, false, false, false, false, false, false, false, false, false, false, false, false, false, false, false, false, false, false, false, false, false, false] rfl rfl (any_of HT_.out (by kernel_rfl)) (fun _ _ _ h => h) (Or.inl ⟨by rfl, ?_⟩) ?_ ?_
                  rotate_left
                  · intro w'
                    go_simp
                    with_reducible rfl
                  rotate_left
                  · simp only [Act.put, List.setIfInBounds_toArray, List.set_cons_zero, List.set_cons_succ, i64_w, i32_w]
                    rfl
                  refine pure_ (i := 7) (N := some 35) (v := ?_) (a' := ?_) #[false, true, true, true, false, false, false, true, false, false, false, false, false, false, false, false, false, false, false, false, false, false, false, false, false, false, false, false, false, false] rfl rfl (any_of HT_.out (by kernel_rfl)) (fun _ _ _ h => h) (Or.inl ⟨by rfl, ?_⟩) ?_ ?_
                  rotate_left
                  · intro w'
                    go_simp
                    with_reducible rfl
                  rotate_left
                  · simp only [Act.put, List.setIfInBounds_toArray, List.set_cons_zero, List.set_cons_succ, i64_w, i32_w]
                    rfl
                  refine pure_ (i := 8) (N := some 36) (v := ?_) (a' := ?_) #[false, true, true, true, false, false, false, true, true, false, false, false, false, false, false, false, false, false, false, false, false, false, false, false, false, false, false, false, false, false] rfl rfl (any_of HT_.out (by kernel_rfl)) (fun _ _ _ h => h) (Or.inl ⟨by rfl, ?_⟩) ?_ ?_
                  rotate_left
                  · intro w'
                    go_simp
                    with_reducible rfl
                  rotate_left
                  · simp only [Act.put, List.setIfInBounds_toArray, List.set_cons_zero, List.set_cons_succ, i64_w, i32_w]
                    rfl
                  refine pure_ (i := 9) (N := some 37) (v := ?_) (a' := ?_) #[false, true, true, true, false, false, false, true, true, true, false, false, false, false, false, false, false, false, false, false, false, false, false, false, false, false, false, false, false, false] rfl rfl (any_of HT_.out (by kernel_rfl)) (fun _ _ _ h => h) (Or.inl ⟨by rfl, ?_⟩) ?_ ?_
                  rotate_left
                  · intro w'
                    go_simp
                    with_reducible rfl
                  rotate_left
                  · simp only [Act.put, List.setIfInBounds_toArray, List.set_cons_zero, List.set_cons_succ, i64_w, i32_w]
                    rfl
                  refine take_ (i := 0) (N := some 28) (v := ?_) (a' := ?_) #[true, true, true, true, false, false, false, true, true, true, false, false, false, false, false, false, false, false, false, false, false, false, false, false, false, false, false, false, false, false] rfl rfl (take_ofW HT_.out HW_.out (by kernel_rfl)) (fun _ _ _ h => h) (Or.inl ⟨by rfl, ?_⟩) hHeld ?_ ?_
                  rotate_left
                  · rintro w' ⟨s0, s1, s2, s3, s4, s5, s6, s7, s8, s9⟩
                    go_simp
                    with_reducible rfl
                  rotate_left
                  · simp only [Act.put, List.setIfInBounds_toArray, List.set_cons_zero, List.set_cons_succ, i64_w, i32_w]
                    rfl
                  refine take_ (i := 4) (N := some 32) (v := ?_) (a' := ?_) #[true, true, true, true, true, false, false, true, true, true, false, false, false, false, false, false, false, false, false, false, false, false, false, false, false, false, false, false, false, false] rfl rfl (take_ofW HT_.out HW_.out (by kernel_rfl)) (fun _ _ _ h => h) (Or.inl ⟨by rfl, ?_⟩) hHeld ?_ ?_
                  rotate_left
                  · rintro w' ⟨s0, s1, s2, s3, s4, s5, s6, s7, s8, s9⟩
                    go_simp
                    with_reducible rfl
                  rotate_left
                  · simp only [Act.put, List.setIfInBounds_toArray, List.set_cons_zero, List.set_cons_succ, i64_w, i32_w]
                    rfl
                  refine take_ (i := 6) (N := some 34) (v := ?_) (a' := ?_) #[true, true, true, true, true, false, true, true, true, true, false, false, false, false, false, false, false, false, false, false, false, false, false, false, false, false, false, false, false, false] rfl rfl (take_ofW HT_.out HW_.out (by kernel_rfl)) (fun _ _ _ h => h) (Or.inl ⟨by rfl, ?_⟩) hHeld ?_ ?_
                  rotate_left
                  · rintro w' ⟨s0, s1, s2, s3, s4, s5, s6, s7, s8, s9⟩
                    go_simp
                    with_reducible rfl
                  rotate_left
                  · simp only [Act.put, List.setIfInBounds_toArray, List.set_cons_zero, List.set_cons_succ, i64_w, i32_w]
                    rfl
                  refine take_ (i := 10) (N := some 38) (v := ?_) (a' := ?_) #[true, true, true, true, true, false, true, true, true, true, true, false, false, false, false, false, false, false, false, false, false, false, false, false, false, false, false, false, false, false] rfl rfl (take_ofW HT_.out HW_.out (by kernel_rfl)) (fun _ _ _ h => h) (Or.inl ⟨by rfl, ?_⟩) hHeld ?_ ?_
                  rotate_left
                  · rintro w' ⟨s0, s1, s2, s3, s4, s5, s6, s7, s8, s9⟩
                    go_simp
                    with_reducible rfl
                  rotate_left
                  · simp only [Act.put, List.setIfInBounds_toArray, List.set_cons_zero, List.set_cons_succ, i64_w, i32_w]
                    rfl
                  refine one_ (i := 5) (N := some 33) #[true, true, true, true, true, true, true, true, true, true, true, false, false, false, false, false, false, false, false, false, false, false, false, false, false, false, false, false, false, false] rfl rfl (one_of HT_.out (by kernel_rfl)) (by decide) (fun K hK => ?_)
                  refine goes_ Try.func52 (by kernel_rfl) rfl #[.agg #[.int .i64 t34103, .int .i64 t34104, .int .i64 t34105, .int .i64 t34106, .int .i64 t34107, .slice Ao17 t34108.length co17], .int .i64 (rd y34115 x9_1)] (by rfl) rfl rfl (by (try simp only [List.map_toArray, List.map_cons, List.map_nil]); first | done | rfl | (simp only [List.length_drop, List.length_take]; rfl)) ?_
                  with_reducible refine (conf_Owners.calls k1 t34103 t34104 t34105 t34106 t34107 _ _ t34108 (rd y34115 x9_1) t34119 _ ?side1 ?side2 A24.out).mono ?_
                  (case side1 => repeat (first | exact (Kd.R_reads' HO_34112005.out).2.2 | (with_reducible refine Kd.C_alloc ?_ _) | (with_reducible refine Kd.C_drewN ?_ _) | (with_reducible refine Kd.C_drew ?_)))
                  (case side2 => exact (Kd.R_reads' HO_34112005.out).2.1)
                  rintro e w34 ⟨v34120, rfl, ho0, hb⟩
                  have HS6_ := (hb.cell (World.block_lt_of_cell? _ _ (hHeld.2.2.2.2.2.2.1))).trans (hHeld.2.2.2.2.2.2.1)
                  have HS7_ := (hb.cell (World.block_lt_of_cell? _ _ (hHeld.2.2.2.2.2.2.2.1))).trans (hHeld.2.2.2.2.2.2.2.1)
                  have HS8_ := (hb.cell (World.block_lt_of_cell? _ _ (hHeld.2.2.2.2.2.2.2.2.1))).trans (hHeld.2.2.2.2.2.2.2.2.1)
                  have HS9_ := (hb.cell (World.block_lt_of_cell? _ _ (hHeld.2.2.2.2.2.2.2.2.2))).trans (hHeld.2.2.2.2.2.2.2.2.2)
                  refine ⟨_, rfl, ?_⟩
                  have n0_ := Aside0.mk (Kd.R_elder' (by (with_reducible repeat (first | apply Kd.R_alloc | apply Kd.R_drewN | apply Kd.R_drew)); exact HO_8.out) (Kd.R_base ho0) hb)
                  have n1_ := Aside0.mk (Kd.R_elder' (by (with_reducible repeat (first | apply Kd.R_alloc | apply Kd.R_drewN | apply Kd.R_drew)); exact HO_34112005.out) (Kd.R_base ho0) hb)
                  have n2_ := Aside0.mk (Kd.R_lower (Kd.R_new' (Kd.R_new' ho0 (Kd.R_lt (by (with_reducible repeat (first | apply Kd.R_alloc | apply Kd.R_drewN | apply Kd.R_drew)); exact HO_8.out))) (Kd.R_lt (by (with_reducible repeat (first | apply Kd.R_alloc | apply Kd.R_drewN | apply Kd.R_drew)); exact HO_34112005.out))) (below_size (by repeat (first | (with_reducible first | exact HB.out | apply below_alloc | apply pw_below_drewN | apply below_drew1 | refine below_set ?_ GE34101.out | refine below_set ?_ GE34111.out) | exact HB.out))))
                  have n3_ := Aside0.mk (blk_below (g := gb34101) (o := .cells #[.int .i64 a0_0, .int .i64 a0_1, .int .i64 a0_2, .int .i64 a0_3, .int .i64 a0_4, .slice A0_5 l0_5.length c0_5] 35 (0, 0)) (by (with_reducible repeat (first | refine blk_drewN ?_ _ | refine blk_drew ?_ | refine blk_alloc ?_ _)); exact BK34101.out) hb)
                  have n4_ := Aside0.mk (blk_below (g := gb34111) (o := .cells #[.int .i64 t34103, .int .i64 t34104, .int .i64 t34105, .int .i64 t34106, .int .i64 t34107, .slice Ao17 t34108.length co17] 35 (0, 0)) (by (with_reducible repeat (first | refine blk_drewN ?_ _ | refine blk_drew ?_ | refine blk_alloc ?_ _)); exact BK34111.out) hb)
                  have n5_ := Aside0.mk (below_step (by repeat (first | (with_reducible first | exact HB.out | apply below_alloc | apply pw_below_drewN | apply below_drew1 | refine below_set ?_ GE34101.out | refine below_set ?_ GE34111.out) | exact HB.out)) hb)
                  clear HO_8
                  clear HO_34112005
                  clear BK34101
                  clear BK34111
                  clear HB
                  have HO_8 := n0_
                  have HO_34112005 := n1_
                  have HO34121 := n2_
                  have BK34101 := n3_
                  have BK34111 := n4_
                  have HB := n5_
                  clear n0_ n1_ n2_ n3_ n4_ n5_
                  (try clear hb)
                  (try clear hb2)
                  (try clear hk)
                  (try clear hi)
                  (try clear ho0)
                  refine hK.out _ _ ⟨(blk_cell BK34111.out 0).trans rfl, (blk_cell BK34111.out 1).trans rfl, (blk_cell BK34111.out 2).trans rfl, (blk_cell BK34111.out 3).trans rfl, (blk_cell BK34111.out 4).trans rfl, (blk_cell BK34111.out 5).trans rfl, HS6_, HS7_, HS8_, HS9_⟩ (fun hHeld => ?_)
                  clear hK K
                  refine norm_ (a' := ?_) ?_ ?_
                  rotate_left
                  · show Act.put _ (some 33) _ = _
                    simp only [Act.put, List.setIfInBounds_toArray, List.set_cons_zero, List.set_cons_succ, i64_w, i32_w]
                    rfl
                  refine one_ (i := 11) (N := some 39) #[true, true, true, true, true, true, true, true, true, true, true, true, false, false, false, false, false, false, false, false, false, false, false, false, false, false, false, false, false, false] rfl rfl (one_of HT_.out (by kernel_rfl)) (by decide) (fun K hK => ?_)
                  refine goes_ Try.func55 (by kernel_rfl) rfl #[.agg #[.int .i64 t34103, .int .i64 t34104, .int .i64 t34105, .int .i64 t34106, .int .i64 t34107, .slice Ao17 t34108.length co17], .int .i64 (rd y34115 x9_1)] (by rfl) rfl rfl (by (try simp only [List.map_toArray, List.map_cons, List.map_nil]); first | done | rfl | (simp only [List.length_drop, List.length_take]; rfl)) ?_
                  with_reducible refine (plaitingref3_Owners.calls k1 t34103 t34104 t34105 t34106 t34107 _ _ t34108 (rd y34115 x9_1) t34123 _ ?side1 ?side2 A25.out).mono ?_
                  (case side1 => repeat (first | exact (Kd.R_reads' HO_34112005.out).2.2 | (with_reducible refine Kd.C_alloc ?_ _) | (with_reducible refine Kd.C_drewN ?_ _) | (with_reducible refine Kd.C_drew ?_)))
                  (case side2 => exact (Kd.R_reads' HO_34112005.out).2.1)
                  rintro e w35 ⟨v34124, rfl, ho0, hb⟩
                  have HS6_ := (hb.cell (World.block_lt_of_cell? _ _ (hHeld.2.2.2.2.2.2.1))).trans (hHeld.2.2.2.2.2.2.1)
                  have HS7_ := (hb.cell (World.block_lt_of_cell? _ _ (hHeld.2.2.2.2.2.2.2.1))).trans (hHeld.2.2.2.2.2.2.2.1)
                  have HS8_ := (hb.cell (World.block_lt_of_cell? _ _ (hHeld.2.2.2.2.2.2.2.2.1))).trans (hHeld.2.2.2.2.2.2.2.2.1)
                  have HS9_ := (hb.cell (World.block_lt_of_cell? _ _ (hHeld.2.2.2.2.2.2.2.2.2))).trans (hHeld.2.2.2.2.2.2.2.2.2)
                  refine ⟨_, rfl, ?_⟩
                  have n0_ := Aside0.mk (Kd.R_elder' (by (with_reducible repeat (first | apply Kd.R_alloc | apply Kd.R_drewN | apply Kd.R_drew)); exact HO_8.out) (Kd.R_base ho0) hb)
                  have n1_ := Aside0.mk (Kd.R_elder' (by (with_reducible repeat (first | apply Kd.R_alloc | apply Kd.R_drewN | apply Kd.R_drew)); exact HO_34112005.out) (Kd.R_base ho0) hb)
                  have n2_ := Aside0.mk (Kd.R_elder' (by (with_reducible repeat (first | apply Kd.R_alloc | apply Kd.R_drewN | apply Kd.R_drew)); exact HO34121.out) (Kd.R_base ho0) hb)
                  have n3_ := Aside0.mk (Kd.R_lower (Kd.R_new' (Kd.R_new' (Kd.R_new' ho0 (Kd.R_lt (by (with_reducible repeat (first | apply Kd.R_alloc | apply Kd.R_drewN | apply Kd.R_drew)); exact HO_8.out))) (Kd.R_lt (by (with_reducible repeat (first | apply Kd.R_alloc | apply Kd.R_drewN | apply Kd.R_drew)); exact HO_34112005.out))) (Kd.R_lt (by (with_reducible repeat (first | apply Kd.R_alloc | apply Kd.R_drewN | apply Kd.R_drew)); exact HO34121.out))) (below_size (by repeat (first | (with_reducible first | exact HB.out | apply below_alloc | apply pw_below_drewN | apply below_drew1 | refine below_set ?_ GE34101.out | refine below_set ?_ GE34111.out) | exact HB.out))))
                  have n4_ := Aside0.mk (blk_below (g := gb34101) (o := .cells #[.int .i64 a0_0, .int .i64 a0_1, .int .i64 a0_2, .int .i64 a0_3, .int .i64 a0_4, .slice A0_5 l0_5.length c0_5] 35 (0, 0)) (by (with_reducible repeat (first | refine blk_drewN ?_ _ | refine blk_drew ?_ | refine blk_alloc ?_ _)); exact BK34101.out) hb)
                  have n5_ := Aside0.mk (blk_below (g := gb34111) (o := .cells #[.int .i64 t34103, .int .i64 t34104, .int .i64 t34105, .int .i64 t34106, .int .i64 t34107, .slice Ao17 t34108.length co17] 35 (0, 0)) (by (with_reducible repeat (first | refine blk_drewN ?_ _ | refine blk_drew ?_ | refine blk_alloc ?_ _)); exact BK34111.out) hb)
                  have n6_ := Aside0.mk (below_step (by repeat (first | (with_reducible first | exact HB.out | apply below_alloc | apply pw_below_drewN | apply below_drew1 | refine below_set ?_ GE34101.out | refine below_set ?_ GE34111.out) | exact HB.out)) hb)
                  clear HO_8
                  clear HO_34112005
                  clear HO34121
                  clear BK34101
                  clear BK34111
                  clear HB
                  have HO_8 := n0_
                  have HO_34112005 := n1_
                  have HO34121 := n2_
                  have HO34125 := n3_
                  have BK34101 := n4_
                  have BK34111 := n5_
                  have HB := n6_
                  clear n0_ n1_ n2_ n3_ n4_ n5_ n6_
                  (try clear hb)
                  (try clear hb2)
                  (try clear hk)
                  (try clear hi)
                  (try clear ho0)
                  obtain ⟨Ao36, co36, eo36⟩ := Kd.R_slice HO34121.out
                  (first | subst eo36 | (injection eo36 with f1_ f2_ f3_; have f4_ := f1_.symm; have f5_ := f3_.symm; clear f1_ f2_ f3_; subst f4_; subst f5_))
                  obtain ⟨Ao37, co37, eo37⟩ := Kd.R_slice HO34125.out
                  (first | subst eo37 | (injection eo37 with f1_ f2_ f3_; have f4_ := f1_.symm; have f5_ := f3_.symm; clear f1_ f2_ f3_; subst f4_; subst f5_))
                  refine hK.out _ _ ⟨(blk_cell BK34111.out 0).trans rfl, (blk_cell BK34111.out 1).trans rfl, (blk_cell BK34111.out 2).trans rfl, (blk_cell BK34111.out 3).trans rfl, (blk_cell BK34111.out 4).trans rfl, (blk_cell BK34111.out 5).trans rfl, HS6_, HS7_, HS8_, HS9_⟩ (fun hHeld => ?_)
                  clear hK K
                  refine norm_ (a' := ?_) ?_ ?_
                  rotate_left
                  · show Act.put _ (some 39) _ = _
                    simp only [Act.put, List.setIfInBounds_toArray, List.set_cons_zero, List.set_cons_succ, i64_w, i32_w]
                    rfl
                  refine one_ (i := 12) (N := some 40) #[true, true, true, true, true, true, true, true, true, true, true, true, true, false, false, false, false, false, false, false, false, false, false, false, false, false, false, false, false, false] rfl rfl (one_of HT_.out (by kernel_rfl)) (by decide) (fun K hK => ?_)
                  refine goes_ Try.func35 (by kernel_rfl) rfl #[.slice Ao36 t34119.length co36, .slice Ao37 t34123.length co37] (by rfl) rfl rfl (by (try simp only [List.map_toArray, List.map_cons, List.map_nil]); first | done | rfl | (simp only [List.length_drop, List.length_take]; rfl)) ?_
                  with_reducible refine (plaitingref3_Same.calls k1 _ _ t34119 _ _ t34123 true _ ?side1 ?side2 ?side3 ?side4 A26.out).mono ?_
                  (case side1 => repeat (first | exact (Kd.R_reads' HO34121.out).2.2 | (with_reducible refine Kd.C_alloc ?_ _) | (with_reducible refine Kd.C_drewN ?_ _) | (with_reducible refine Kd.C_drew ?_)))
                  (case side2 => exact (Kd.R_reads' HO34121.out).2.1)
                  (case side3 => repeat (first | exact (Kd.R_reads' HO34125.out).2.2 | (with_reducible refine Kd.C_alloc ?_ _) | (with_reducible refine Kd.C_drewN ?_ _) | (with_reducible refine Kd.C_drew ?_)))
                  (case side4 => exact (Kd.R_reads' HO34125.out).2.1)
                  rintro e w' ⟨rfl, ⟨nd, rfl⟩⟩
                  refine ⟨_, rfl, ?_⟩
                  refine hK.out _ _ ⟨(blk_cell BK34111.out 0).trans rfl, (blk_cell BK34111.out 1).trans rfl, (blk_cell BK34111.out 2).trans rfl, (blk_cell BK34111.out 3).trans rfl, (blk_cell BK34111.out 4).trans rfl, (blk_cell BK34111.out 5).trans rfl, hHeld.2.2.2.2.2.2.1, hHeld.2.2.2.2.2.2.2.1, hHeld.2.2.2.2.2.2.2.2.1, hHeld.2.2.2.2.2.2.2.2.2⟩ (fun hHeld => ?_)
                  clear hK K
                  refine norm_ (a' := ?_) ?_ ?_
                  rotate_left
                  · show Act.put _ (some 40) _ = _
                    simp only [Act.put, List.setIfInBounds_toArray, List.set_cons_zero, List.set_cons_succ, i64_w, i32_w]
                    rfl
                  refine pure_ (i := 13) (N := some 41) (v := ?_) (a' := ?_) #[true, true, true, true, true, true, true, true, true, true, true, true, true, true, false, false, false, false, false, false, false, false, false, false, false, false, false, false, false, false] rfl rfl (any_of HT_.out (by kernel_rfl)) (fun _ _ _ h => h) (Or.inl ⟨by rfl, ?_⟩) ?_ ?_
                  rotate_left
                  · intro w'
                    go_simp
                    with_reducible rfl
                  rotate_left
                  · simp only [Act.put, List.setIfInBounds_toArray, List.set_cons_zero, List.set_cons_succ, i64_w, i32_w]
                    rfl
                  refine pure_ (i := 14) (N := some 42) (v := ?_) (a' := ?_) #[true, true, true, true, true, true, true, true, true, true, true, true, true, true, true, false, false, false, false, false, false, false, false, false, false, false, false, false, false, false] rfl rfl (any_of HT_.out (by kernel_rfl)) (fun _ _ _ h => h) (Or.inl ⟨by rfl, ?_⟩) ?_ ?_
                  rotate_left
                  · intro w'
                    go_simp
                    with_reducible rfl
                  rotate_left
                  · simp only [Act.put, List.setIfInBounds_toArray, List.set_cons_zero, List.set_cons_succ, i64_w, i32_w]
                    rfl
                  refine pure_ (i := 16) (N := some 44) (v := ?_) (a' := ?_) #[true, true, true, true, true, true, true, true, true, true, true, true, true, true, true, false, true, false, false, false, false, false, false, false, false, false, false, false, false, false] rfl rfl (any_of HT_.out (by kernel_rfl)) (fun _ _ _ h => h) (Or.inl ⟨by rfl, ?_⟩) ?_ ?_
                  rotate_left
                  · intro w'
                    go_simp
                    with_reducible rfl
                  rotate_left
                  · simp only [Act.put, List.setIfInBounds_toArray, List.set_cons_zero, List.set_cons_succ, i64_w, i32_w]
                    rfl
                  refine pure_ (i := 17) (N := some 45) (v := ?_) (a' := ?_) #[true, true, true, true, true, true, true, true, true, true, true, true, true, true, true, false, true, true, false, false, false, false, false, false, false, false, false, false, false, false] rfl rfl (any_of HT_.out (by kernel_rfl)) (fun _ _ _ h => h) (Or.inl ⟨by rfl, ?_⟩) ?_ ?_
                  rotate_left
                  · intro w'
                    go_simp
                    with_reducible rfl
                  rotate_left
                  · simp only [Act.put, List.setIfInBounds_toArray, List.set_cons_zero, List.set_cons_succ, i64_w, i32_w]
                    rfl
                  refine pure_ (i := 18) (N := some 46) (v := ?_) (a' := ?_) #[true, true, true, true, true, true, true, true, true, true, true, true, true, true, true, false, true, true, true, false, false, false, false, false, false, false, false, false, false, false] rfl rfl (any_of HT_.out (by kernel_rfl)) (fun _ _ _ h => h) (Or.inl ⟨by rfl, ?_⟩) ?_ ?_
                  rotate_left
                  · intro w'
                    go_simp
                    with_reducible rfl
                  rotate_left
                  · simp only [Act.put, List.setIfInBounds_toArray, List.set_cons_zero, List.set_cons_succ, i64_w, i32_w]
                    rfl
                  refine pure_ (i := 22) (N := some 50) (v := ?_) (a' := ?_) #[true, true, true, true, true, true, true, true, true, true, true, true, true, true, true, false, true, true, true, false, false, false, true, false, false, false, false, false, false, false] rfl rfl (any_of HT_.out (by kernel_rfl)) (fun _ _ _ h => h) (Or.inl ⟨by rfl, ?_⟩) ?_ ?_
                  rotate_left
                  · intro w'
                    go_simp
                    with_reducible rfl
                  rotate_left
                  · simp only [Act.put, List.setIfInBounds_toArray, List.set_cons_zero, List.set_cons_succ, i64_w, i32_w]
                    rfl
                  refine pure_ (i := 23) (N := some 51) (v := ?_) (a' := ?_) #[true, true, true, true, true, true, true, true, true, true, true, true, true, true, true, false, true, true, true, false, false, false, true, true, false, false, false, false, false, false] rfl rfl (any_of HT_.out (by kernel_rfl)) (fun _ _ _ h => h) (Or.inl ⟨by rfl, ?_⟩) ?_ ?_
                  rotate_left
                  · intro w'
                    go_simp
                    with_reducible rfl
                  rotate_left
                  · simp only [Act.put, List.setIfInBounds_toArray, List.set_cons_zero, List.set_cons_succ, i64_w, i32_w]
                    rfl
                  refine pure_ (i := 24) (N := some 52) (v := ?_) (a' := ?_) #[true, true, true, true, true, true, true, true, true, true, true, true, true, true, true, false, true, true, true, false, false, false, true, true, true, false, false, false, false, false] rfl rfl (any_of HT_.out (by kernel_rfl)) (fun _ _ _ h => h) (Or.inl ⟨by rfl, ?_⟩) ?_ ?_
                  rotate_left
                  · intro w'
                    go_simp
                    with_reducible rfl
                  rotate_left
                  · simp only [Act.put, List.setIfInBounds_toArray, List.set_cons_zero, List.set_cons_succ, i64_w, i32_w]
                    rfl
                  refine take_ (i := 15) (N := some 43) (v := ?_) (a' := ?_) #[true, true, true, true, true, true, true, true, true, true, true, true, true, true, true, true, true, true, true, false, false, false, true, true, true, false, false, false, false, false] rfl rfl (take_ofW HT_.out HW_.out (by kernel_rfl)) (fun _ _ _ h => h) (Or.inl ⟨by rfl, ?_⟩) hHeld ?_ ?_
                  rotate_left
                  · rintro w' ⟨s0, s1, s2, s3, s4, s5, s6, s7, s8, s9⟩
                    go_simp
                    with_reducible rfl
                  rotate_left
                  · simp only [Act.put, List.setIfInBounds_toArray, List.set_cons_zero, List.set_cons_succ, i64_w, i32_w]
                    rfl
                  refine take_ (i := 19) (N := some 47) (v := ?_) (a' := ?_) #[true, true, true, true, true, true, true, true, true, true, true, true, true, true, true, true, true, true, true, true, false, false, true, true, true, false, false, false, false, false] rfl rfl (take_ofW HT_.out HW_.out (by kernel_rfl)) (fun _ _ _ h => h) (Or.inl ⟨by rfl, ?_⟩) hHeld ?_ ?_
                  rotate_left
                  · rintro w' ⟨s0, s1, s2, s3, s4, s5, s6, s7, s8, s9⟩
                    go_simp
                    with_reducible rfl
                  rotate_left
                  · simp only [Act.put, List.setIfInBounds_toArray, List.set_cons_zero, List.set_cons_succ, i64_w, i32_w]
                    rfl
                  refine take_ (i := 21) (N := some 49) (v := ?_) (a' := ?_) #[true, true, true, true, true, true, true, true, true, true, true, true, true, true, true, true, true, true, true, true, false, true, true, true, true, false, false, false, false, false] rfl rfl (take_ofW HT_.out HW_.out (by kernel_rfl)) (fun _ _ _ h => h) (Or.inl ⟨by rfl, ?_⟩) hHeld ?_ ?_
                  rotate_left
                  · rintro w' ⟨s0, s1, s2, s3, s4, s5, s6, s7, s8, s9⟩
                    go_simp
                    with_reducible rfl
                  rotate_left
                  · simp only [Act.put, List.setIfInBounds_toArray, List.set_cons_zero, List.set_cons_succ, i64_w, i32_w]
                    rfl
                  refine take_ (i := 25) (N := some 53) (v := ?_) (a' := ?_) #[true, true, true, true, true, true, true, true, true, true, true, true, true, true, true, true, true, true, true, true, false, true, true, true, true, true, false, false, false, false] rfl rfl (take_ofW HT_.out HW_.out (by kernel_rfl)) (fun _ _ _ h => h) (Or.inl ⟨by rfl, ?_⟩) hHeld ?_ ?_
                  rotate_left
                  · rintro w' ⟨s0, s1, s2, s3, s4, s5, s6, s7, s8, s9⟩
                    go_simp
                    with_reducible rfl
                  rotate_left
                  · simp only [Act.put, List.setIfInBounds_toArray, List.set_cons_zero, List.set_cons_succ, i64_w, i32_w]
                    rfl
                  refine one_ (i := 20) (N := some 48) #[true, true, true, true, true, true, true, true, true, true, true, true, true, true, true, true, true, true, true, true, true, true, true, true, true, true, false, false, false, false] rfl rfl (one_of HT_.out (by kernel_rfl)) (by decide) (fun K hK => ?_)
                  refine goes_ Try.func53 (by kernel_rfl) rfl #[.agg #[.int .i64 t34103, .int .i64 t34104, .int .i64 t34105, .int .i64 t34106, .int .i64 t34107, .slice Ao17 t34108.length co17], .int .i64 (rd y34115 x9_1)] (by rfl) rfl rfl (by (try simp only [List.map_toArray, List.map_cons, List.map_nil]); first | done | rfl | (simp only [List.length_drop, List.length_take]; rfl)) ?_
                  with_reducible refine (conf_Voters.calls k1 t34103 t34104 t34105 t34106 t34107 _ _ t34108 (rd y34115 x9_1) t34128 _ ?side1 ?side2 A28.out).mono ?_
                  (case side1 => repeat (first | exact (Kd.R_reads' HO_34112005.out).2.2 | (with_reducible refine Kd.C_alloc ?_ _) | (with_reducible refine Kd.C_drewN ?_ _) | (with_reducible refine Kd.C_drew ?_)))
                  (case side2 => exact (Kd.R_reads' HO_34112005.out).2.1)
                  rintro e w38 ⟨v34129, rfl, ho0, hb⟩
                  have HS6_ := (hb.cell (World.block_lt_of_cell? _ _ (hHeld.2.2.2.2.2.2.1))).trans (hHeld.2.2.2.2.2.2.1)
                  have HS7_ := (hb.cell (World.block_lt_of_cell? _ _ (hHeld.2.2.2.2.2.2.2.1))).trans (hHeld.2.2.2.2.2.2.2.1)
                  have HS8_ := (hb.cell (World.block_lt_of_cell? _ _ (hHeld.2.2.2.2.2.2.2.2.1))).trans (hHeld.2.2.2.2.2.2.2.2.1)
                  have HS9_ := (hb.cell (World.block_lt_of_cell? _ _ (hHeld.2.2.2.2.2.2.2.2.2))).trans (hHeld.2.2.2.2.2.2.2.2.2)
                  refine ⟨_, rfl, ?_⟩
                  have n0_ := Aside0.mk (Kd.R_elder' (by (with_reducible repeat (first | apply Kd.R_alloc | apply Kd.R_drewN | apply Kd.R_drew)); exact HO_8.out) (Kd.R_base ho0) hb)
                  have n1_ := Aside0.mk (Kd.R_elder' (by (with_reducible repeat (first | apply Kd.R_alloc | apply Kd.R_drewN | apply Kd.R_drew)); exact HO_34112005.out) (Kd.R_base ho0) hb)
                  have n2_ := Aside0.mk (Kd.R_elder' (by (with_reducible repeat (first | apply Kd.R_alloc | apply Kd.R_drewN | apply Kd.R_drew)); exact HO34121.out) (Kd.R_base ho0) hb)
                  have n3_ := Aside0.mk (Kd.R_elder' (by (with_reducible repeat (first | apply Kd.R_alloc | apply Kd.R_drewN | apply Kd.R_drew)); exact HO34125.out) (Kd.R_base ho0) hb)
                  have n4_ := Aside0.mk (Kd.R_lower (Kd.R_new' (Kd.R_new' (Kd.R_new' (Kd.R_new' ho0 (Kd.R_lt (by (with_reducible repeat (first | apply Kd.R_alloc | apply Kd.R_drewN | apply Kd.R_drew)); exact HO_8.out))) (Kd.R_lt (by (with_reducible repeat (first | apply Kd.R_alloc | apply Kd.R_drewN | apply Kd.R_drew)); exact HO_34112005.out))) (Kd.R_lt (by (with_reducible repeat (first | apply Kd.R_alloc | apply Kd.R_drewN | apply Kd.R_drew)); exact HO34121.out))) (Kd.R_lt (by (with_reducible repeat (first | apply Kd.R_alloc | apply Kd.R_drewN | apply Kd.R_drew)); exact HO34125.out))) (below_size (by repeat (first | (with_reducible first | exact HB.out | apply below_alloc | apply pw_below_drewN | apply below_drew1 | refine below_set ?_ GE34101.out | refine below_set ?_ GE34111.out) | exact HB.out))))
                  have n5_ := Aside0.mk (blk_below (g := gb34101) (o := .cells #[.int .i64 a0_0, .int .i64 a0_1, .int .i64 a0_2, .int .i64 a0_3, .int .i64 a0_4, .slice A0_5 l0_5.length c0_5] 35 (0, 0)) (by (with_reducible repeat (first | refine blk_drewN ?_ _ | refine blk_drew ?_ | refine blk_alloc ?_ _)); exact BK34101.out) hb)
                  have n6_ := Aside0.mk (blk_below (g := gb34111) (o := .cells #[.int .i64 t34103, .int .i64 t34104, .int .i64 t34105, .int .i64 t34106, .int .i64 t34107, .slice Ao17 t34108.length co17] 35 (0, 0)) (by (with_reducible repeat (first | refine blk_drewN ?_ _ | refine blk_drew ?_ | refine blk_alloc ?_ _)); exact BK34111.out) hb)
                  have n7_ := Aside0.mk (below_step (by repeat (first | (with_reducible first | exact HB.out | apply below_alloc | apply pw_below_drewN | apply below_drew1 | refine below_set ?_ GE34101.out | refine below_set ?_ GE34111.out) | exact HB.out)) hb)
                  clear HO_8
                  clear HO_34112005
                  clear HO34121
                  clear HO34125
                  clear BK34101
                  clear BK34111
                  clear HB
                  have HO_8 := n0_
                  have HO_34112005 := n1_
                  have HO34121 := n2_
                  have HO34125 := n3_
                  have HO34130 := n4_
                  have BK34101 := n5_
                  have BK34111 := n6_
                  have HB := n7_
                  clear n0_ n1_ n2_ n3_ n4_ n5_ n6_ n7_
                  (try clear hb)
                  (try clear hb2)
                  (try clear hk)
                  (try clear hi)
                  (try clear ho0)
                  refine hK.out _ _ ⟨(blk_cell BK34111.out 0).trans rfl, (blk_cell BK34111.out 1).trans rfl, (blk_cell BK34111.out 2).trans rfl, (blk_cell BK34111.out 3).trans rfl, (blk_cell BK34111.out 4).trans rfl, (blk_cell BK34111.out 5).trans rfl, HS6_, HS7_, HS8_, HS9_⟩ (fun hHeld => ?_)
                  clear hK K
                  refine norm_ (a' := ?_) ?_ ?_
                  rotate_left
                  · show Act.put _ (some 48) _ = _
                    simp only [Act.put, List.setIfInBounds_toArray, List.set_cons_zero, List.set_cons_succ, i64_w, i32_w]
                    rfl
                  refine one_ (i := 26) (N := some 54) #[true, true, true, true, true, true, true, true, true, true, true, true, true, true, true, true, true, true, true, true, true, true, true, true, true, true, true, false, false, false] rfl rfl (one_of HT_.out (by kernel_rfl)) (by decide) (fun K hK => ?_)
                  refine goes_ Try.func56 (by kernel_rfl) rfl #[.agg #[.int .i64 t34103, .int .i64 t34104, .int .i64 t34105, .int .i64 t34106, .int .i64 t34107, .slice Ao17 t34108.length co17], .int .i64 (rd y34115 x9_1)] (by rfl) rfl rfl (by (try simp only [List.map_toArray, List.map_cons, List.map_nil]); first | done | rfl | (simp only [List.length_drop, List.length_take]; rfl)) ?_
                  with_reducible refine (plaitingref3_Voters.calls k1 t34103 t34104 t34105 t34106 t34107 _ _ t34108 (rd y34115 x9_1) t34132 _ ?side1 ?side2 A29.out).mono ?_
                  (case side1 => repeat (first | exact (Kd.R_reads' HO_34112005.out).2.2 | (with_reducible refine Kd.C_alloc ?_ _) | (with_reducible refine Kd.C_drewN ?_ _) | (with_reducible refine Kd.C_drew ?_)))
                  (case side2 => exact (Kd.R_reads' HO_34112005.out).2.1)
                  rintro e w39 ⟨v34133, rfl, ho0, hb⟩
                  have HS6_ := (hb.cell (World.block_lt_of_cell? _ _ (hHeld.2.2.2.2.2.2.1))).trans (hHeld.2.2.2.2.2.2.1)
                  have HS7_ := (hb.cell (World.block_lt_of_cell? _ _ (hHeld.2.2.2.2.2.2.2.1))).trans (hHeld.2.2.2.2.2.2.2.1)
                  have HS8_ := (hb.cell (World.block_lt_of_cell? _ _ (hHeld.2.2.2.2.2.2.2.2.1))).trans (hHeld.2.2.2.2.2.2.2.2.1)
                  have HS9_ := (hb.cell (World.block_lt_of_cell? _ _ (hHeld.2.2.2.2.2.2.2.2.2))).trans (hHeld.2.2.2.2.2.2.2.2.2)
                  refine ⟨_, rfl, ?_⟩
                  have n0_ := Aside0.mk (Kd.R_elder' (by (with_reducible repeat (first | apply Kd.R_alloc | apply Kd.R_drewN | apply Kd.R_drew)); exact HO_8.out) (Kd.R_base ho0) hb)
                  have n1_ := Aside0.mk (Kd.R_elder' (by (with_reducible repeat (first | apply Kd.R_alloc | apply Kd.R_drewN | apply Kd.R_drew)); exact HO_34112005.out) (Kd.R_base ho0) hb)
                  have n2_ := Aside0.mk (Kd.R_elder' (by (with_reducible repeat (first | apply Kd.R_alloc | apply Kd.R_drewN | apply Kd.R_drew)); exact HO34121.out) (Kd.R_base ho0) hb)
                  have n3_ := Aside0.mk (Kd.R_elder' (by (with_reducible repeat (first | apply Kd.R_alloc | apply Kd.R_drewN | apply Kd.R_drew)); exact HO34125.out) (Kd.R_base ho0) hb)
                  have n4_ := Aside0.mk (Kd.R_elder' (by (with_reducible repeat (first | apply Kd.R_alloc | apply Kd.R_drewN | apply Kd.R_drew)); exact HO34130.out) (Kd.R_base ho0) hb)
                  have n5_ := Aside0.mk (Kd.R_lower (Kd.R_new' (Kd.R_new' (Kd.R_new' (Kd.R_new' (Kd.R_new' ho0 (Kd.R_lt (by (with_reducible repeat (first | apply Kd.R_alloc | apply Kd.R_drewN | apply Kd.R_drew)); exact HO_8.out))) (Kd.R_lt (by (with_reducible repeat (first | apply Kd.R_alloc | apply Kd.R_drewN | apply Kd.R_drew)); exact HO_34112005.out))) (Kd.R_lt (by (with_reducible repeat (first | apply Kd.R_alloc | apply Kd.R_drewN | apply Kd.R_drew)); exact HO34121.out))) (Kd.R_lt (by (with_reducible repeat (first | apply Kd.R_alloc | apply Kd.R_drewN | apply Kd.R_drew)); exact HO34125.out))) (Kd.R_lt (by (with_reducible repeat (first | apply Kd.R_alloc | apply Kd.R_drewN | apply Kd.R_drew)); exact HO34130.out))) (below_size (by repeat (first | (with_reducible first | exact HB.out | apply below_alloc | apply pw_below_drewN | apply below_drew1 | refine below_set ?_ GE34101.out | refine below_set ?_ GE34111.out) | exact HB.out))))
                  have n6_ := Aside0.mk (blk_below (g := gb34101) (o := .cells #[.int .i64 a0_0, .int .i64 a0_1, .int .i64 a0_2, .int .i64 a0_3, .int .i64 a0_4, .slice A0_5 l0_5.length c0_5] 35 (0, 0)) (by (with_reducible repeat (first | refine blk_drewN ?_ _ | refine blk_drew ?_ | refine blk_alloc ?_ _)); exact BK34101.out) hb)
                  have n7_ := Aside0.mk (blk_below (g := gb34111) (o := .cells #[.int .i64 t34103, .int .i64 t34104, .int .i64 t34105, .int .i64 t34106, .int .i64 t34107, .slice Ao17 t34108.length co17] 35 (0, 0)) (by (with_reducible repeat (first | refine blk_drewN ?_ _ | refine blk_drew ?_ | refine blk_alloc ?_ _)); exact BK34111.out) hb)
                  have n8_ := Aside0.mk (below_step (by repeat (first | (with_reducible first | exact HB.out | apply below_alloc | apply pw_below_drewN | apply below_drew1 | refine below_set ?_ GE34101.out | refine below_set ?_ GE34111.out) | exact HB.out)) hb)
                  clear HO_8
                  clear HO_34112005
                  clear HO34121
                  clear HO34125
                  clear HO34130
                  clear BK34101
                  clear BK34111
                  clear HB
                  have HO_8 := n0_
                  have HO_34112005 := n1_
                  have HO34121 := n2_
                  have HO34125 := n3_
                  have HO34130 := n4_
                  have HO34134 := n5_
                  have BK34101 := n6_
                  have BK34111 := n7_
                  have HB := n8_
                  clear n0_ n1_ n2_ n3_ n4_ n5_ n6_ n7_ n8_
                  (try clear hb)
                  (try clear hb2)
                  (try clear hk)
                  (try clear hi)
                  (try clear ho0)
                  obtain ⟨Ao40, co40, eo40⟩ := Kd.R_slice HO34130.out
                  (first | subst eo40 | (injection eo40 with f1_ f2_ f3_; have f4_ := f1_.symm; have f5_ := f3_.symm; clear f1_ f2_ f3_; subst f4_; subst f5_))
                  obtain ⟨Ao41, co41, eo41⟩ := Kd.R_slice HO34134.out
                  (first | subst eo41 | (injection eo41 with f1_ f2_ f3_; have f4_ := f1_.symm; have f5_ := f3_.symm; clear f1_ f2_ f3_; subst f4_; subst f5_))
                  refine hK.out _ _ ⟨(blk_cell BK34111.out 0).trans rfl, (blk_cell BK34111.out 1).trans rfl, (blk_cell BK34111.out 2).trans rfl, (blk_cell BK34111.out 3).trans rfl, (blk_cell BK34111.out 4).trans rfl, (blk_cell BK34111.out 5).trans rfl, HS6_, HS7_, HS8_, HS9_⟩ (fun hHeld => ?_)
                  clear hK K
                  refine norm_ (a' := ?_) ?_ ?_
                  rotate_left
                  · show Act.put _ (some 54) _ = _
                    simp only [Act.put, List.setIfInBounds_toArray, List.set_cons_zero, List.set_cons_succ, i64_w, i32_w]
                    rfl
                  refine one_ (i := 27) (N := some 55) #[true, true, true, true, true, true, true, true, true, true, true, true, true, true, true, true, true, true, true, true, true, true, true, true, true, true, true, true, false, false] rfl rfl (one_of HT_.out (by kernel_rfl)) (by decide) (fun K hK => ?_)
                  refine goes_ Try.func35 (by kernel_rfl) rfl #[.slice Ao40 t34128.length co40, .slice Ao41 t34132.length co41] (by rfl) rfl rfl (by (try simp only [List.map_toArray, List.map_cons, List.map_nil]); first | done | rfl | (simp only [List.length_drop, List.length_take]; rfl)) ?_
                  with_reducible refine (plaitingref3_Same.calls k1 _ _ t34128 _ _ t34132 true _ ?side1 ?side2 ?side3 ?side4 A30.out).mono ?_
                  (case side1 => repeat (first | exact (Kd.R_reads' HO34130.out).2.2 | (with_reducible refine Kd.C_alloc ?_ _) | (with_reducible refine Kd.C_drewN ?_ _) | (with_reducible refine Kd.C_drew ?_)))
                  (case side2 => exact (Kd.R_reads' HO34130.out).2.1)
                  (case side3 => repeat (first | exact (Kd.R_reads' HO34134.out).2.2 | (with_reducible refine Kd.C_alloc ?_ _) | (with_reducible refine Kd.C_drewN ?_ _) | (with_reducible refine Kd.C_drew ?_)))
                  (case side4 => exact (Kd.R_reads' HO34134.out).2.1)
                  rintro e w' ⟨rfl, ⟨nd, rfl⟩⟩
                  refine ⟨_, rfl, ?_⟩
                  refine hK.out _ _ ⟨(blk_cell BK34111.out 0).trans rfl, (blk_cell BK34111.out 1).trans rfl, (blk_cell BK34111.out 2).trans rfl, (blk_cell BK34111.out 3).trans rfl, (blk_cell BK34111.out 4).trans rfl, (blk_cell BK34111.out 5).trans rfl, hHeld.2.2.2.2.2.2.1, hHeld.2.2.2.2.2.2.2.1, hHeld.2.2.2.2.2.2.2.2.1, hHeld.2.2.2.2.2.2.2.2.2⟩ (fun hHeld => ?_)
                  clear hK K
                  refine norm_ (a' := ?_) ?_ ?_
                  rotate_left
                  · show Act.put _ (some 55) _ = _
                    simp only [Act.put, List.setIfInBounds_toArray, List.set_cons_zero, List.set_cons_succ, i64_w, i32_w]
                    rfl
                  refine pure_ (i := 28) (N := some 56) (v := ?_) (a' := ?_) #[true, true, true, true, true, true, true, true, true, true, true, true, true, true, true, true, true, true, true, true, true, true, true, true, true, true, true, true, true, false] rfl rfl (any_of HT_.out (by kernel_rfl)) (fun _ _ _ h => h) (Or.inl ⟨by rfl, ?_⟩) ?_ ?_
                  rotate_left
                  · intro w'
                    go_simp
                    with_reducible rfl
                  rotate_left
                  · simp only [Act.put, List.setIfInBounds_toArray, List.set_cons_zero, List.set_cons_succ, i64_w, i32_w]
                    rfl
                  refine pure_ (i := 29) (N := some 57) (v := ?_) (a' := ?_) #[true, true, true, true, true, true, true, true, true, true, true, true, true, true, true, true, true, true, true, true, true, true, true, true, true, true, true, true, true, true] rfl rfl (any_of HT_.out (by kernel_rfl)) (fun _ _ _ h => h) (Or.inl ⟨by rfl, ?_⟩) ?_ ?_
                  rotate_left
                  · intro w'
                    go_simp
                    with_reducible rfl
                  rotate_left
                  · simp only [Act.put, List.setIfInBounds_toArray, List.set_cons_zero, List.set_cons_succ, i64_w, i32_w]
                    rfl
                  refine done_ (done_of HT_.out (by kernel_rfl)) ?_
                  try go_wp2
                  go_roundg k1
                  case measure => have := HK1.out; omega
                  case rel => exact ⟨(wrap64 (x9_1 + 1)), (by first | rfl | (simp; done) | (simp [*]; done)), H', ⟨by have := HK1.out; omega⟩, ⟨by (with_reducible repeat (first | apply Kd.R_alloc | apply Kd.R_drewN | apply Kd.R_drew)); exact Kd.R_mono HO_8.out (fun _ hk => hk.1.1.1.1)⟩, ⟨by (with_reducible repeat (first | apply Kd.R_alloc | apply Kd.R_drewN | apply Kd.R_drew)); exact Kd.R_mono HO_34112005.out (fun _ hk => hk.1.1.1.1)⟩, ⟨by (with_reducible repeat (first | refine blk_drewN ?_ _ | refine blk_drew ?_ | refine blk_alloc ?_ _)); exact BK34101.out⟩, ⟨by (with_reducible repeat (first | refine blk_drewN ?_ _ | refine blk_drew ?_ | refine blk_alloc ?_ _)); exact BK34111.out⟩, ⟨by repeat (first | (with_reducible first | exact HB.out | apply below_alloc | apply pw_below_drewN | apply below_drew1 | refine below_set ?_ GE34101.out | refine below_set ?_ GE34111.out) | exact HB.out)⟩⟩
                · replace c31 := Bool.eq_false_iff.mpr c31
                  subst c31
                  have H1 : (some false) = some r := by rw [if_neg (show ¬ (false = true) by decide)] at H; exact H
                  clear H
                  have H := H1
                  clear H1
                  exact absurd ((Option.some.inj H).trans HRT.out) (by decide)
              · replace c27 := Bool.eq_false_iff.mpr c27
                subst c27
                have H1 : (some false) = some r := by rw [if_neg (show ¬ (false = true) by decide)] at H; exact H
                clear H
                have H := H1
                clear H1
                exact absurd ((Option.some.inj H).trans HRT.out) (by decide)
            · rw [if_neg c23] at H
              exact absurd H (by simp)
          · rw [if_neg c22] at H
            exact absurd H (by simp)
        · rw [if_neg c21] at H
          have c21b0 : decide (x9_1 < 2) = false := decide_eq_false c21
          clear c21
          replace H := Option.bind_eq_some_iff.mp H
          obtain ⟨t34136, A420, H⟩ := H
          replace H : ((plaitingref3_Slots.f t34103 t34104 t34105 t34106 t34107 t34108).bind fun t34137 => (if t34136 = t34137 then ((conf_Most.f t34103 t34104 t34105 t34106 t34107 t34108).bind fun t34138 => ((plaitingref3_Most.f t34103 t34104 t34105 t34106 t34107 t34108).bind fun t34139 => (if t34138 = t34139 then ((conf_Window.f t34103 t34104 t34105 t34106 t34107 t34108).bind fun t34140 => ((plaitingref3_Window.f t34103 t34104 t34105 t34106 t34107 t34108).bind fun t34141 => (if t34140 = t34141 then ((conf_Limit.f t34103 t34104 t34105 t34106 t34107 t34108).bind fun t34142 => ((plaitingref3_Limit.f t34103 t34104 t34105 t34106 t34107 t34108).bind fun t34143 => (if t34142 = t34143 then ((conf_Wire.f t34103 t34104 t34105 t34106 t34107 t34108 t34112).bind fun t34144 => ((plaitingref3_Wire.f t34103 t34104 t34105 t34106 t34107 t34108 t34112).bind fun t34145 => (some (t34144 == t34145)))) else (some false)))) else (some false)))) else (some false)))) else (some false))) = some r := H
          have A42 := Aside0.mk A420
          clear A420
          replace H := Option.bind_eq_some_iff.mp H
          obtain ⟨t34137, A430, H⟩ := H
          replace H : (if t34136 = t34137 then ((conf_Most.f t34103 t34104 t34105 t34106 t34107 t34108).bind fun t34138 => ((plaitingref3_Most.f t34103 t34104 t34105 t34106 t34107 t34108).bind fun t34139 => (if t34138 = t34139 then ((conf_Window.f t34103 t34104 t34105 t34106 t34107 t34108).bind fun t34140 => ((plaitingref3_Window.f t34103 t34104 t34105 t34106 t34107 t34108).bind fun t34141 => (if t34140 = t34141 then ((conf_Limit.f t34103 t34104 t34105 t34106 t34107 t34108).bind fun t34142 => ((plaitingref3_Limit.f t34103 t34104 t34105 t34106 t34107 t34108).bind fun t34143 => (if t34142 = t34143 then ((conf_Wire.f t34103 t34104 t34105 t34106 t34107 t34108 t34112).bind fun t34144 => ((plaitingref3_Wire.f t34103 t34104 t34105 t34106 t34107 t34108 t34112).bind fun t34145 => (some (t34144 == t34145)))) else (some false)))) else (some false)))) else (some false)))) else (some false)) = some r := H
          have A43 := Aside0.mk A430
          clear A430
          by_cases c44 : t34136 = t34137
          · rw [if_pos c44] at H
            have c44b0 : (t34136 == t34137) = true := beq_iff_eq.mpr c44
            have c44b1 : (t34136 != t34137) = false := bne_eq_false_iff_eq.mpr c44
            clear c44
            replace H := Option.bind_eq_some_iff.mp H
            obtain ⟨t34138, A450, H⟩ := H
            replace H : ((plaitingref3_Most.f t34103 t34104 t34105 t34106 t34107 t34108).bind fun t34139 => (if t34138 = t34139 then ((conf_Window.f t34103 t34104 t34105 t34106 t34107 t34108).bind fun t34140 => ((plaitingref3_Window.f t34103 t34104 t34105 t34106 t34107 t34108).bind fun t34141 => (if t34140 = t34141 then ((conf_Limit.f t34103 t34104 t34105 t34106 t34107 t34108).bind fun t34142 => ((plaitingref3_Limit.f t34103 t34104 t34105 t34106 t34107 t34108).bind fun t34143 => (if t34142 = t34143 then ((conf_Wire.f t34103 t34104 t34105 t34106 t34107 t34108 t34112).bind fun t34144 => ((plaitingref3_Wire.f t34103 t34104 t34105 t34106 t34107 t34108 t34112).bind fun t34145 => (some (t34144 == t34145)))) else (some false)))) else (some false)))) else (some false))) = some r := H
            have A45 := Aside0.mk A450
            clear A450
            replace H := Option.bind_eq_some_iff.mp H
            obtain ⟨t34139, A460, H⟩ := H
            replace H : (if t34138 = t34139 then ((conf_Window.f t34103 t34104 t34105 t34106 t34107 t34108).bind fun t34140 => ((plaitingref3_Window.f t34103 t34104 t34105 t34106 t34107 t34108).bind fun t34141 => (if t34140 = t34141 then ((conf_Limit.f t34103 t34104 t34105 t34106 t34107 t34108).bind fun t34142 => ((plaitingref3_Limit.f t34103 t34104 t34105 t34106 t34107 t34108).bind fun t34143 => (if t34142 = t34143 then ((conf_Wire.f t34103 t34104 t34105 t34106 t34107 t34108 t34112).bind fun t34144 => ((plaitingref3_Wire.f t34103 t34104 t34105 t34106 t34107 t34108 t34112).bind fun t34145 => (some (t34144 == t34145)))) else (some false)))) else (some false)))) else (some false)) = some r := H
            have A46 := Aside0.mk A460
            clear A460
            by_cases c47 : t34138 = t34139
            · rw [if_pos c47] at H
              have c47b0 : (t34138 == t34139) = true := beq_iff_eq.mpr c47
              have c47b1 : (t34138 != t34139) = false := bne_eq_false_iff_eq.mpr c47
              clear c47
              replace H := Option.bind_eq_some_iff.mp H
              obtain ⟨t34140, A480, H⟩ := H
              replace H : ((plaitingref3_Window.f t34103 t34104 t34105 t34106 t34107 t34108).bind fun t34141 => (if t34140 = t34141 then ((conf_Limit.f t34103 t34104 t34105 t34106 t34107 t34108).bind fun t34142 => ((plaitingref3_Limit.f t34103 t34104 t34105 t34106 t34107 t34108).bind fun t34143 => (if t34142 = t34143 then ((conf_Wire.f t34103 t34104 t34105 t34106 t34107 t34108 t34112).bind fun t34144 => ((plaitingref3_Wire.f t34103 t34104 t34105 t34106 t34107 t34108 t34112).bind fun t34145 => (some (t34144 == t34145)))) else (some false)))) else (some false))) = some r := H
              have A48 := Aside0.mk A480
              clear A480
              replace H := Option.bind_eq_some_iff.mp H
              obtain ⟨t34141, A490, H⟩ := H
              replace H : (if t34140 = t34141 then ((conf_Limit.f t34103 t34104 t34105 t34106 t34107 t34108).bind fun t34142 => ((plaitingref3_Limit.f t34103 t34104 t34105 t34106 t34107 t34108).bind fun t34143 => (if t34142 = t34143 then ((conf_Wire.f t34103 t34104 t34105 t34106 t34107 t34108 t34112).bind fun t34144 => ((plaitingref3_Wire.f t34103 t34104 t34105 t34106 t34107 t34108 t34112).bind fun t34145 => (some (t34144 == t34145)))) else (some false)))) else (some false)) = some r := H
              have A49 := Aside0.mk A490
              clear A490
              by_cases c50 : t34140 = t34141
              · rw [if_pos c50] at H
                have c50b0 : (t34140 == t34141) = true := beq_iff_eq.mpr c50
                have c50b1 : (t34140 != t34141) = false := bne_eq_false_iff_eq.mpr c50
                clear c50
                replace H := Option.bind_eq_some_iff.mp H
                obtain ⟨t34142, A510, H⟩ := H
                replace H : ((plaitingref3_Limit.f t34103 t34104 t34105 t34106 t34107 t34108).bind fun t34143 => (if t34142 = t34143 then ((conf_Wire.f t34103 t34104 t34105 t34106 t34107 t34108 t34112).bind fun t34144 => ((plaitingref3_Wire.f t34103 t34104 t34105 t34106 t34107 t34108 t34112).bind fun t34145 => (some (t34144 == t34145)))) else (some false))) = some r := H
                have A51 := Aside0.mk A510
                clear A510
                replace H := Option.bind_eq_some_iff.mp H
                obtain ⟨t34143, A520, H⟩ := H
                replace H : (if t34142 = t34143 then ((conf_Wire.f t34103 t34104 t34105 t34106 t34107 t34108 t34112).bind fun t34144 => ((plaitingref3_Wire.f t34103 t34104 t34105 t34106 t34107 t34108 t34112).bind fun t34145 => (some (t34144 == t34145)))) else (some false)) = some r := H
                have A52 := Aside0.mk A520
                clear A520
                by_cases c53 : t34142 = t34143
                · rw [if_pos c53] at H
                  have c53b0 : (t34142 == t34143) = true := beq_iff_eq.mpr c53
                  have c53b1 : (t34142 != t34143) = false := bne_eq_false_iff_eq.mpr c53
                  clear c53
                  replace H := Option.bind_eq_some_iff.mp H
                  obtain ⟨t34144, A540, H⟩ := H
                  replace H : ((plaitingref3_Wire.f t34103 t34104 t34105 t34106 t34107 t34108 t34112).bind fun t34145 => (some (t34144 == t34145))) = some r := H
                  have A54 := Aside0.mk A540
                  clear A540
                  replace H := Option.bind_eq_some_iff.mp H
                  obtain ⟨t34145, A550, H⟩ := H
                  replace H : (some (t34144 == t34145)) = some r := H
                  have A55 := Aside0.mk A550
                  clear A550
                  obtain rfl := Option.some.inj H
                  try go_wp2
                  have n0_ := Aside0.mk (Kd.R_drew HO_8.out)
                  have n1_ := Aside0.mk (Kd.R_drew HO_34112005.out)
                  have n2_ := Aside0.mk (blk_drew BK34101.out)
                  have n3_ := Aside0.mk (blk_drew BK34111.out)
                  have n4_ := Aside0.mk (below_drew1 HB.out)
                  clear HO_8
                  clear HO_34112005
                  clear BK34101
                  clear BK34111
                  clear HB
                  have HO_8 := n0_
                  have HO_34112005 := n1_
                  have BK34101 := n2_
                  have BK34111 := n3_
                  have HB := n4_
                  clear n0_ n1_ n2_ n3_ n4_
                  refine start_ (n := 36) (S := fun w' => w'.cell? ⟨gb34111, 0, none⟩ = some (.int .i64 t34103) ∧ w'.cell? ⟨gb34111, 1, none⟩ = some (.int .i64 t34104) ∧ w'.cell? ⟨gb34111, 2, none⟩ = some (.int .i64 t34105) ∧ w'.cell? ⟨gb34111, 3, none⟩ = some (.int .i64 t34106) ∧ w'.cell? ⟨gb34111, 4, none⟩ = some (.int .i64 t34107) ∧ w'.cell? ⟨gb34111, 5, none⟩ = some (.slice Ao17 t34108.length co17)) (ds := []) #[false, false, false, false, false, false, false, false, false, false, false, false, false, false, false, false, false, false, false, false, false, false, false, false, false, false, false, false, false, false, false, false, false, false, false, false] (by kernel_rfl) rfl rfl ⟨(blk_cell BK34111.out 0).trans rfl, (blk_cell BK34111.out 1).trans rfl, (blk_cell BK34111.out 2).trans rfl, (blk_cell BK34111.out 3).trans rfl, (blk_cell BK34111.out 4).trans rfl, (blk_cell BK34111.out 5).trans rfl⟩ (fun hHeld => ?_); refine with_tabW plaitinglaw3_ConfAll.tab11 plaitinglaw3_ConfAll.bits11 (fun HT_ HW_ => ?_)
                  generalize wr.drew = w56 at HO_8 HO_34112005 BK34101 BK34111 HB hHeld ⊢
                  refine take_ (i := 0) (N := some 58) (v := ?_) (a' := ?_) #[true, false, false, false, false, false, false, false, false, false, false, false, false, false, false, false, false, false, false, false, false, false, false, false, false, false, false, false, false, false, false, false, false, false, false, false] rfl rfl (take_ofW HT_.out HW_.out (by kernel_rfl)) (fun _ _ _ h => h) (Or.inl ⟨by rfl, ?_⟩) hHeld ?_ ?_
                  rotate_left
                  · rintro w' ⟨s0, s1, s2, s3, s4, s5⟩
                    go_simp
                    with_reducible rfl
                  rotate_left
                  · simp only [Act.put, List.setIfInBounds_toArray, List.set_cons_zero, List.set_cons_succ, i64_w, i32_w]
                    rfl
                  refine take_ (i := 2) (N := some 60) (v := ?_) (a' := ?_) #[true, false, true, false, false, false, false, false, false, false, false, false, false, false, false, false, false, false, false, false, false, false, false, false, false, false, false, false, false, false, false, false, false, false, false, false] rfl rfl (take_ofW HT_.out HW_.out (by kernel_rfl)) (fun _ _ _ h => h) (Or.inl ⟨by rfl, ?_⟩) hHeld ?_ ?_
                  rotate_left
                  · rintro w' ⟨s0, s1, s2, s3, s4, s5⟩
                    go_simp
                    with_reducible rfl
                  rotate_left
                  · simp only [Act.put, List.setIfInBounds_toArray, List.set_cons_zero, List.set_cons_succ, i64_w, i32_w]
                    rfl
                  refine one_ (i := 1) (N := some 59) #[true, true, true, false, false, false, false, false, false, false, false, false, false, false, false, false, false, false, false, false, false, false, false, false, false, false, false, false, false, false, false, false, false, false, false, false] rfl rfl (one_of HT_.out (by kernel_rfl)) (by decide) (fun K hK => ?_)
                  refine goes_ Try.func54 (by kernel_rfl) rfl #[.agg #[.int .i64 t34103, .int .i64 t34104, .int .i64 t34105, .int .i64 t34106, .int .i64 t34107, .slice Ao17 t34108.length co17]] (by rfl) rfl rfl (by (try simp only [List.map_toArray, List.map_cons, List.map_nil]); first | done | rfl | (simp only [List.length_drop, List.length_take]; rfl)) ?_
                  with_reducible refine (conf_Slots.calls t34103 t34104 t34105 t34106 t34107 _ _ t34108 t34136 _ ?side1 ?side2 A42.out).mono ?_
                  (case side1 => repeat (first | exact (Kd.R_reads' HO_34112005.out).2.2 | (with_reducible refine Kd.C_alloc ?_ _) | (with_reducible refine Kd.C_drewN ?_ _) | (with_reducible refine Kd.C_drew ?_)))
                  (case side2 => exact (Kd.R_reads' HO_34112005.out).2.1)
                  rintro e w57 ⟨rfl, hb⟩
                  refine ⟨_, rfl, ?_⟩
                  have n0_ := Aside0.mk (Kd.R_below (by (with_reducible repeat (first | apply Kd.R_alloc | apply Kd.R_drewN | apply Kd.R_drew)); exact HO_8.out) hb)
                  have n1_ := Aside0.mk (Kd.R_below (by (with_reducible repeat (first | apply Kd.R_alloc | apply Kd.R_drewN | apply Kd.R_drew)); exact HO_34112005.out) hb)
                  have n2_ := Aside0.mk (blk_below (g := gb34101) (o := .cells #[.int .i64 a0_0, .int .i64 a0_1, .int .i64 a0_2, .int .i64 a0_3, .int .i64 a0_4, .slice A0_5 l0_5.length c0_5] 35 (0, 0)) (by (with_reducible repeat (first | refine blk_drewN ?_ _ | refine blk_drew ?_ | refine blk_alloc ?_ _)); exact BK34101.out) hb)
                  have n3_ := Aside0.mk (blk_below (g := gb34111) (o := .cells #[.int .i64 t34103, .int .i64 t34104, .int .i64 t34105, .int .i64 t34106, .int .i64 t34107, .slice Ao17 t34108.length co17] 35 (0, 0)) (by (with_reducible repeat (first | refine blk_drewN ?_ _ | refine blk_drew ?_ | refine blk_alloc ?_ _)); exact BK34111.out) hb)
                  have n4_ := Aside0.mk (below_step (by repeat (first | (with_reducible first | exact HB.out | apply below_alloc | apply pw_below_drewN | apply below_drew1 | refine below_set ?_ GE34101.out | refine below_set ?_ GE34111.out) | exact HB.out)) hb)
                  clear HO_8
                  clear HO_34112005
                  clear BK34101
                  clear BK34111
                  clear HB
                  have HO_8 := n0_
                  have HO_34112005 := n1_
                  have BK34101 := n2_
                  have BK34111 := n3_
                  have HB := n4_
                  clear n0_ n1_ n2_ n3_ n4_
                  (try clear hb)
                  (try clear hb2)
                  (try clear hk)
                  (try clear hi)
                  refine hK.out _ _ ⟨(blk_cell BK34111.out 0).trans rfl, (blk_cell BK34111.out 1).trans rfl, (blk_cell BK34111.out 2).trans rfl, (blk_cell BK34111.out 3).trans rfl, (blk_cell BK34111.out 4).trans rfl, (blk_cell BK34111.out 5).trans rfl⟩ (fun hHeld => ?_)
                  clear hK K
                  refine norm_ (a' := ?_) ?_ ?_
                  rotate_left
                  · show Act.put _ (some 59) _ = _
                    simp only [Act.put, List.setIfInBounds_toArray, List.set_cons_zero, List.set_cons_succ, i64_w, i32_w]
                    rfl
                  refine one_ (i := 3) (N := some 61) #[true, true, true, true, false, false, false, false, false, false, false, false, false, false, false, false, false, false, false, false, false, false, false, false, false, false, false, false, false, false, false, false, false, false, false, false] rfl rfl (one_of HT_.out (by kernel_rfl)) (by decide) (fun K hK => ?_)
                  refine goes_ Try.func51 (by kernel_rfl) rfl #[.agg #[.int .i64 t34103, .int .i64 t34104, .int .i64 t34105, .int .i64 t34106, .int .i64 t34107, .slice Ao17 t34108.length co17]] (by rfl) rfl rfl (by (try simp only [List.map_toArray, List.map_cons, List.map_nil]); first | done | rfl | (simp only [List.length_drop, List.length_take]; rfl)) ?_
                  with_reducible refine (plaitingref3_Slots.calls t34103 t34104 t34105 t34106 t34107 _ _ t34108 t34137 _ ?side1 ?side2 A43.out).mono ?_
                  (case side1 => repeat (first | exact (Kd.R_reads' HO_34112005.out).2.2 | (with_reducible refine Kd.C_alloc ?_ _) | (with_reducible refine Kd.C_drewN ?_ _) | (with_reducible refine Kd.C_drew ?_)))
                  (case side2 => exact (Kd.R_reads' HO_34112005.out).2.1)
                  rintro e w58 ⟨rfl, hb⟩
                  refine ⟨_, rfl, ?_⟩
                  have n0_ := Aside0.mk (Kd.R_below (by (with_reducible repeat (first | apply Kd.R_alloc | apply Kd.R_drewN | apply Kd.R_drew)); exact HO_8.out) hb)
                  have n1_ := Aside0.mk (Kd.R_below (by (with_reducible repeat (first | apply Kd.R_alloc | apply Kd.R_drewN | apply Kd.R_drew)); exact HO_34112005.out) hb)
                  have n2_ := Aside0.mk (blk_below (g := gb34101) (o := .cells #[.int .i64 a0_0, .int .i64 a0_1, .int .i64 a0_2, .int .i64 a0_3, .int .i64 a0_4, .slice A0_5 l0_5.length c0_5] 35 (0, 0)) (by (with_reducible repeat (first | refine blk_drewN ?_ _ | refine blk_drew ?_ | refine blk_alloc ?_ _)); exact BK34101.out) hb)
                  have n3_ := Aside0.mk (blk_below (g := gb34111) (o := .cells #[.int .i64 t34103, .int .i64 t34104, .int .i64 t34105, .int .i64 t34106, .int .i64 t34107, .slice Ao17 t34108.length co17] 35 (0, 0)) (by (with_reducible repeat (first | refine blk_drewN ?_ _ | refine blk_drew ?_ | refine blk_alloc ?_ _)); exact BK34111.out) hb)
                  have n4_ := Aside0.mk (below_step (by repeat (first | (with_reducible first | exact HB.out | apply below_alloc | apply pw_below_drewN | apply below_drew1 | refine below_set ?_ GE34101.out | refine below_set ?_ GE34111.out) | exact HB.out)) hb)
                  clear HO_8
                  clear HO_34112005
                  clear BK34101
                  clear BK34111
                  clear HB
                  have HO_8 := n0_
                  have HO_34112005 := n1_
                  have BK34101 := n2_
                  have BK34111 := n3_
                  have HB := n4_
                  clear n0_ n1_ n2_ n3_ n4_
                  (try clear hb)
                  (try clear hb2)
                  (try clear hk)
                  (try clear hi)
                  refine hK.out _ _ ⟨(blk_cell BK34111.out 0).trans rfl, (blk_cell BK34111.out 1).trans rfl, (blk_cell BK34111.out 2).trans rfl, (blk_cell BK34111.out 3).trans rfl, (blk_cell BK34111.out 4).trans rfl, (blk_cell BK34111.out 5).trans rfl⟩ (fun hHeld => ?_)
                  clear hK K
                  refine norm_ (a' := ?_) ?_ ?_
                  rotate_left
                  · show Act.put _ (some 61) _ = _
                    simp only [Act.put, List.setIfInBounds_toArray, List.set_cons_zero, List.set_cons_succ, i64_w, i32_w]
                    rfl
                  refine pure_ (i := 4) (N := some 62) (v := ?_) (a' := ?_) #[true, true, true, true, true, false, false, false, false, false, false, false, false, false, false, false, false, false, false, false, false, false, false, false, false, false, false, false, false, false, false, false, false, false, false, false] rfl rfl (any_of HT_.out (by kernel_rfl)) (fun _ _ _ h => h) (Or.inl ⟨by rfl, ?_⟩) ?_ ?_
                  rotate_left
                  · intro w'
                    go_simp
                    with_reducible rfl
                  rotate_left
                  · simp only [Act.put, List.setIfInBounds_toArray, List.set_cons_zero, List.set_cons_succ, i64_w, i32_w]
                    rfl
                  refine pure_ (i := 5) (N := some 63) (v := ?_) (a' := ?_) #[true, true, true, true, true, true, false, false, false, false, false, false, false, false, false, false, false, false, false, false, false, false, false, false, false, false, false, false, false, false, false, false, false, false, false, false] rfl rfl (any_of HT_.out (by kernel_rfl)) (fun _ _ _ h => h) (Or.inl ⟨by rfl, ?_⟩) ?_ ?_
                  rotate_left
                  · intro w'
                    go_simp
                    with_reducible rfl
                  rotate_left
                  · simp only [Act.put, List.setIfInBounds_toArray, List.set_cons_zero, List.set_cons_succ, i64_w, i32_w]
                    rfl
                  refine take_ (i := 6) (N := some 64) (v := ?_) (a' := ?_) #[true, true, true, true, true, true, true, false, false, false, false, false, false, false, false, false, false, false, false, false, false, false, false, false, false, false, false, false, false, false, false, false, false, false, false, false] rfl rfl (take_ofW HT_.out HW_.out (by kernel_rfl)) (fun _ _ _ h => h) (Or.inl ⟨by rfl, ?_⟩) hHeld ?_ ?_
                  rotate_left
                  · rintro w' ⟨s0, s1, s2, s3, s4, s5⟩
                    go_simp
                    with_reducible rfl
                  rotate_left
                  · simp only [Act.put, List.setIfInBounds_toArray, List.set_cons_zero, List.set_cons_succ, i64_w, i32_w]
                    rfl
                  refine take_ (i := 8) (N := some 66) (v := ?_) (a' := ?_) #[true, true, true, true, true, true, true, false, true, false, false, false, false, false, false, false, false, false, false, false, false, false, false, false, false, false, false, false, false, false, false, false, false, false, false, false] rfl rfl (take_ofW HT_.out HW_.out (by kernel_rfl)) (fun _ _ _ h => h) (Or.inl ⟨by rfl, ?_⟩) hHeld ?_ ?_
                  rotate_left
                  · rintro w' ⟨s0, s1, s2, s3, s4, s5⟩
                    go_simp
                    with_reducible rfl
                  rotate_left
                  · simp only [Act.put, List.setIfInBounds_toArray, List.set_cons_zero, List.set_cons_succ, i64_w, i32_w]
                    rfl
                  refine one_ (i := 7) (N := some 65) #[true, true, true, true, true, true, true, true, true, false, false, false, false, false, false, false, false, false, false, false, false, false, false, false, false, false, false, false, false, false, false, false, false, false, false, false] rfl rfl (one_of HT_.out (by kernel_rfl)) (by decide) (fun K hK => ?_)
                  refine goes_ Try.func31 (by kernel_rfl) rfl #[.agg #[.int .i64 t34103, .int .i64 t34104, .int .i64 t34105, .int .i64 t34106, .int .i64 t34107, .slice Ao17 t34108.length co17]] (by rfl) rfl rfl (by (try simp only [List.map_toArray, List.map_cons, List.map_nil]); first | done | rfl | (simp only [List.length_drop, List.length_take]; rfl)) ?_
                  with_reducible refine (conf_Most.calls t34103 t34104 t34105 t34106 t34107 _ _ t34108 t34138 _ ?side1 ?side2 A45.out).mono ?_
                  (case side1 => repeat (first | exact (Kd.R_reads' HO_34112005.out).2.2 | (with_reducible refine Kd.C_alloc ?_ _) | (with_reducible refine Kd.C_drewN ?_ _) | (with_reducible refine Kd.C_drew ?_)))
                  (case side2 => exact (Kd.R_reads' HO_34112005.out).2.1)
                  rintro e w59 ⟨rfl, hb⟩
                  refine ⟨_, rfl, ?_⟩
                  have n0_ := Aside0.mk (Kd.R_below (by (with_reducible repeat (first | apply Kd.R_alloc | apply Kd.R_drewN | apply Kd.R_drew)); exact HO_8.out) hb)
                  have n1_ := Aside0.mk (Kd.R_below (by (with_reducible repeat (first | apply Kd.R_alloc | apply Kd.R_drewN | apply Kd.R_drew)); exact HO_34112005.out) hb)
                  have n2_ := Aside0.mk (blk_below (g := gb34101) (o := .cells #[.int .i64 a0_0, .int .i64 a0_1, .int .i64 a0_2, .int .i64 a0_3, .int .i64 a0_4, .slice A0_5 l0_5.length c0_5] 35 (0, 0)) (by (with_reducible repeat (first | refine blk_drewN ?_ _ | refine blk_drew ?_ | refine blk_alloc ?_ _)); exact BK34101.out) hb)
                  have n3_ := Aside0.mk (blk_below (g := gb34111) (o := .cells #[.int .i64 t34103, .int .i64 t34104, .int .i64 t34105, .int .i64 t34106, .int .i64 t34107, .slice Ao17 t34108.length co17] 35 (0, 0)) (by (with_reducible repeat (first | refine blk_drewN ?_ _ | refine blk_drew ?_ | refine blk_alloc ?_ _)); exact BK34111.out) hb)
                  have n4_ := Aside0.mk (below_step (by repeat (first | (with_reducible first | exact HB.out | apply below_alloc | apply pw_below_drewN | apply below_drew1 | refine below_set ?_ GE34101.out | refine below_set ?_ GE34111.out) | exact HB.out)) hb)
                  clear HO_8
                  clear HO_34112005
                  clear BK34101
                  clear BK34111
                  clear HB
                  have HO_8 := n0_
                  have HO_34112005 := n1_
                  have BK34101 := n2_
                  have BK34111 := n3_
                  have HB := n4_
                  clear n0_ n1_ n2_ n3_ n4_
                  (try clear hb)
                  (try clear hb2)
                  (try clear hk)
                  (try clear hi)
                  refine hK.out _ _ ⟨(blk_cell BK34111.out 0).trans rfl, (blk_cell BK34111.out 1).trans rfl, (blk_cell BK34111.out 2).trans rfl, (blk_cell BK34111.out 3).trans rfl, (blk_cell BK34111.out 4).trans rfl, (blk_cell BK34111.out 5).trans rfl⟩ (fun hHeld => ?_)
                  clear hK K
                  refine norm_ (a' := ?_) ?_ ?_
                  rotate_left
                  · show Act.put _ (some 65) _ = _
                    simp only [Act.put, List.setIfInBounds_toArray, List.set_cons_zero, List.set_cons_succ, i64_w, i32_w]
                    rfl
                  refine one_ (i := 9) (N := some 67) #[true, true, true, true, true, true, true, true, true, true, false, false, false, false, false, false, false, false, false, false, false, false, false, false, false, false, false, false, false, false, false, false, false, false, false, false] rfl rfl (one_of HT_.out (by kernel_rfl)) (by decide) (fun K hK => ?_)
                  refine goes_ Try.func57 (by kernel_rfl) rfl #[.agg #[.int .i64 t34103, .int .i64 t34104, .int .i64 t34105, .int .i64 t34106, .int .i64 t34107, .slice Ao17 t34108.length co17]] (by rfl) rfl rfl (by (try simp only [List.map_toArray, List.map_cons, List.map_nil]); first | done | rfl | (simp only [List.length_drop, List.length_take]; rfl)) ?_
                  with_reducible refine (plaitingref3_Most.calls t34103 t34104 t34105 t34106 t34107 _ _ t34108 t34139 _ ?side1 ?side2 A46.out).mono ?_
                  (case side1 => repeat (first | exact (Kd.R_reads' HO_34112005.out).2.2 | (with_reducible refine Kd.C_alloc ?_ _) | (with_reducible refine Kd.C_drewN ?_ _) | (with_reducible refine Kd.C_drew ?_)))
                  (case side2 => exact (Kd.R_reads' HO_34112005.out).2.1)
                  rintro e w60 ⟨rfl, hb⟩
                  refine ⟨_, rfl, ?_⟩
                  have n0_ := Aside0.mk (Kd.R_below (by (with_reducible repeat (first | apply Kd.R_alloc | apply Kd.R_drewN | apply Kd.R_drew)); exact HO_8.out) hb)
                  have n1_ := Aside0.mk (Kd.R_below (by (with_reducible repeat (first | apply Kd.R_alloc | apply Kd.R_drewN | apply Kd.R_drew)); exact HO_34112005.out) hb)
                  have n2_ := Aside0.mk (blk_below (g := gb34101) (o := .cells #[.int .i64 a0_0, .int .i64 a0_1, .int .i64 a0_2, .int .i64 a0_3, .int .i64 a0_4, .slice A0_5 l0_5.length c0_5] 35 (0, 0)) (by (with_reducible repeat (first | refine blk_drewN ?_ _ | refine blk_drew ?_ | refine blk_alloc ?_ _)); exact BK34101.out) hb)
                  have n3_ := Aside0.mk (blk_below (g := gb34111) (o := .cells #[.int .i64 t34103, .int .i64 t34104, .int .i64 t34105, .int .i64 t34106, .int .i64 t34107, .slice Ao17 t34108.length co17] 35 (0, 0)) (by (with_reducible repeat (first | refine blk_drewN ?_ _ | refine blk_drew ?_ | refine blk_alloc ?_ _)); exact BK34111.out) hb)
                  have n4_ := Aside0.mk (below_step (by repeat (first | (with_reducible first | exact HB.out | apply below_alloc | apply pw_below_drewN | apply below_drew1 | refine below_set ?_ GE34101.out | refine below_set ?_ GE34111.out) | exact HB.out)) hb)
                  clear HO_8
                  clear HO_34112005
                  clear BK34101
                  clear BK34111
                  clear HB
                  have HO_8 := n0_
                  have HO_34112005 := n1_
                  have BK34101 := n2_
                  have BK34111 := n3_
                  have HB := n4_
                  clear n0_ n1_ n2_ n3_ n4_
                  (try clear hb)
                  (try clear hb2)
                  (try clear hk)
                  (try clear hi)
                  refine hK.out _ _ ⟨(blk_cell BK34111.out 0).trans rfl, (blk_cell BK34111.out 1).trans rfl, (blk_cell BK34111.out 2).trans rfl, (blk_cell BK34111.out 3).trans rfl, (blk_cell BK34111.out 4).trans rfl, (blk_cell BK34111.out 5).trans rfl⟩ (fun hHeld => ?_)
                  clear hK K
                  refine norm_ (a' := ?_) ?_ ?_
                  rotate_left
                  · show Act.put _ (some 67) _ = _
                    simp only [Act.put, List.setIfInBounds_toArray, List.set_cons_zero, List.set_cons_succ, i64_w, i32_w]
                    rfl
                  refine pure_ (i := 10) (N := some 68) (v := ?_) (a' := ?_) #[true, true, true, true, true, true, true, true, true, true, true, false, false, false, false, false, false, false, false, false, false, false, false, false, false, false, false, false, false, false, false, false, false, false, false, false] rfl rfl (any_of HT_.out (by kernel_rfl)) (fun _ _ _ h => h) (Or.inl ⟨by rfl, ?_⟩) ?_ ?_
                  rotate_left
                  · intro w'
                    go_simp
                    with_reducible rfl
                  rotate_left
                  · simp only [Act.put, List.setIfInBounds_toArray, List.set_cons_zero, List.set_cons_succ, i64_w, i32_w]
                    rfl
                  refine pure_ (i := 11) (N := some 69) (v := ?_) (a' := ?_) #[true, true, true, true, true, true, true, true, true, true, true, true, false, false, false, false, false, false, false, false, false, false, false, false, false, false, false, false, false, false, false, false, false, false, false, false] rfl rfl (any_of HT_.out (by kernel_rfl)) (fun _ _ _ h => h) (Or.inl ⟨by rfl, ?_⟩) ?_ ?_
                  rotate_left
                  · intro w'
                    go_simp
                    with_reducible rfl
                  rotate_left
                  · simp only [Act.put, List.setIfInBounds_toArray, List.set_cons_zero, List.set_cons_succ, i64_w, i32_w]
                    rfl
                  refine pure_ (i := 12) (N := some 70) (v := ?_) (a' := ?_) #[true, true, true, true, true, true, true, true, true, true, true, true, true, false, false, false, false, false, false, false, false, false, false, false, false, false, false, false, false, false, false, false, false, false, false, false] rfl rfl (any_of HT_.out (by kernel_rfl)) (fun _ _ _ h => h) (Or.inl ⟨by rfl, ?_⟩) ?_ ?_
                  rotate_left
                  · intro w'
                    go_simp
                    with_reducible rfl
                  rotate_left
                  · simp only [Act.put, List.setIfInBounds_toArray, List.set_cons_zero, List.set_cons_succ, i64_w, i32_w]
                    rfl
                  refine take_ (i := 13) (N := some 71) (v := ?_) (a' := ?_) #[true, true, true, true, true, true, true, true, true, true, true, true, true, true, false, false, false, false, false, false, false, false, false, false, false, false, false, false, false, false, false, false, false, false, false, false] rfl rfl (take_ofW HT_.out HW_.out (by kernel_rfl)) (fun _ _ _ h => h) (Or.inl ⟨by rfl, ?_⟩) hHeld ?_ ?_
                  rotate_left
                  · rintro w' ⟨s0, s1, s2, s3, s4, s5⟩
                    go_simp
                    with_reducible rfl
                  rotate_left
                  · simp only [Act.put, List.setIfInBounds_toArray, List.set_cons_zero, List.set_cons_succ, i64_w, i32_w]
                    rfl
                  refine take_ (i := 15) (N := some 73) (v := ?_) (a' := ?_) #[true, true, true, true, true, true, true, true, true, true, true, true, true, true, false, true, false, false, false, false, false, false, false, false, false, false, false, false, false, false, false, false, false, false, false, false] rfl rfl (take_ofW HT_.out HW_.out (by kernel_rfl)) (fun _ _ _ h => h) (Or.inl ⟨by rfl, ?_⟩) hHeld ?_ ?_
                  rotate_left
                  · rintro w' ⟨s0, s1, s2, s3, s4, s5⟩
                    go_simp
                    with_reducible rfl
                  rotate_left
                  · simp only [Act.put, List.setIfInBounds_toArray, List.set_cons_zero, List.set_cons_succ, i64_w, i32_w]
                    rfl
                  refine one_ (i := 14) (N := some 72) #[true, true, true, true, true, true, true, true, true, true, true, true, true, true, true, true, false, false, false, false, false, false, false, false, false, false, false, false, false, false, false, false, false, false, false, false] rfl rfl (one_of HT_.out (by kernel_rfl)) (by decide) (fun K hK => ?_)
                  refine goes_ Try.func33 (by kernel_rfl) rfl #[.agg #[.int .i64 t34103, .int .i64 t34104, .int .i64 t34105, .int .i64 t34106, .int .i64 t34107, .slice Ao17 t34108.length co17]] (by rfl) rfl rfl (by (try simp only [List.map_toArray, List.map_cons, List.map_nil]); first | done | rfl | (simp only [List.length_drop, List.length_take]; rfl)) ?_
                  with_reducible refine (conf_Window.calls t34103 t34104 t34105 t34106 t34107 _ _ t34108 t34140 _ ?side1 ?side2 A48.out).mono ?_
                  (case side1 => repeat (first | exact (Kd.R_reads' HO_34112005.out).2.2 | (with_reducible refine Kd.C_alloc ?_ _) | (with_reducible refine Kd.C_drewN ?_ _) | (with_reducible refine Kd.C_drew ?_)))
                  (case side2 => exact (Kd.R_reads' HO_34112005.out).2.1)
                  rintro e w61 ⟨rfl, hb⟩
                  refine ⟨_, rfl, ?_⟩
                  have n0_ := Aside0.mk (Kd.R_below (by (with_reducible repeat (first | apply Kd.R_alloc | apply Kd.R_drewN | apply Kd.R_drew)); exact HO_8.out) hb)
                  have n1_ := Aside0.mk (Kd.R_below (by (with_reducible repeat (first | apply Kd.R_alloc | apply Kd.R_drewN | apply Kd.R_drew)); exact HO_34112005.out) hb)
                  have n2_ := Aside0.mk (blk_below (g := gb34101) (o := .cells #[.int .i64 a0_0, .int .i64 a0_1, .int .i64 a0_2, .int .i64 a0_3, .int .i64 a0_4, .slice A0_5 l0_5.length c0_5] 35 (0, 0)) (by (with_reducible repeat (first | refine blk_drewN ?_ _ | refine blk_drew ?_ | refine blk_alloc ?_ _)); exact BK34101.out) hb)
                  have n3_ := Aside0.mk (blk_below (g := gb34111) (o := .cells #[.int .i64 t34103, .int .i64 t34104, .int .i64 t34105, .int .i64 t34106, .int .i64 t34107, .slice Ao17 t34108.length co17] 35 (0, 0)) (by (with_reducible repeat (first | refine blk_drewN ?_ _ | refine blk_drew ?_ | refine blk_alloc ?_ _)); exact BK34111.out) hb)
                  have n4_ := Aside0.mk (below_step (by repeat (first | (with_reducible first | exact HB.out | apply below_alloc | apply pw_below_drewN | apply below_drew1 | refine below_set ?_ GE34101.out | refine below_set ?_ GE34111.out) | exact HB.out)) hb)
                  clear HO_8
                  clear HO_34112005
                  clear BK34101
                  clear BK34111
                  clear HB
                  have HO_8 := n0_
                  have HO_34112005 := n1_
                  have BK34101 := n2_
                  have BK34111 := n3_
                  have HB := n4_
                  clear n0_ n1_ n2_ n3_ n4_
                  (try clear hb)
                  (try clear hb2)
                  (try clear hk)
                  (try clear hi)
                  refine hK.out _ _ ⟨(blk_cell BK34111.out 0).trans rfl, (blk_cell BK34111.out 1).trans rfl, (blk_cell BK34111.out 2).trans rfl, (blk_cell BK34111.out 3).trans rfl, (blk_cell BK34111.out 4).trans rfl, (blk_cell BK34111.out 5).trans rfl⟩ (fun hHeld => ?_)
                  clear hK K
                  refine norm_ (a' := ?_) ?_ ?_
                  rotate_left
                  · show Act.put _ (some 72) _ = _
                    simp only [Act.put, List.setIfInBounds_toArray, List.set_cons_zero, List.set_cons_succ, i64_w, i32_w]
                    rfl
                  refine one_ (i := 16) (N := some 74) #[true, true, true, true, true, true, true, true, true, true, true, true, true, true, true, true, true, false, false, false, false, false, false, false, false, false, false, false, false, false, false, false, false, false, false, false] rfl rfl (one_of HT_.out (by kernel_rfl)) (by decide) (fun K hK => ?_)
                  refine goes_ Try.func58 (by kernel_rfl) rfl #[.agg #[.int .i64 t34103, .int .i64 t34104, .int .i64 t34105, .int .i64 t34106, .int .i64 t34107, .slice Ao17 t34108.length co17]] (by rfl) rfl rfl (by (try simp only [List.map_toArray, List.map_cons, List.map_nil]); first | done | rfl | (simp only [List.length_drop, List.length_take]; rfl)) ?_
                  with_reducible refine (plaitingref3_Window.calls t34103 t34104 t34105 t34106 t34107 _ _ t34108 t34141 _ ?side1 ?side2 A49.out).mono ?_
                  (case side1 => repeat (first | exact (Kd.R_reads' HO_34112005.out).2.2 | (with_reducible refine Kd.C_alloc ?_ _) | (with_reducible refine Kd.C_drewN ?_ _) | (with_reducible refine Kd.C_drew ?_)))
                  (case side2 => exact (Kd.R_reads' HO_34112005.out).2.1)
                  rintro e w62 ⟨rfl, hb⟩
                  refine ⟨_, rfl, ?_⟩
                  have n0_ := Aside0.mk (Kd.R_below (by (with_reducible repeat (first | apply Kd.R_alloc | apply Kd.R_drewN | apply Kd.R_drew)); exact HO_8.out) hb)
                  have n1_ := Aside0.mk (Kd.R_below (by (with_reducible repeat (first | apply Kd.R_alloc | apply Kd.R_drewN | apply Kd.R_drew)); exact HO_34112005.out) hb)
                  have n2_ := Aside0.mk (blk_below (g := gb34101) (o := .cells #[.int .i64 a0_0, .int .i64 a0_1, .int .i64 a0_2, .int .i64 a0_3, .int .i64 a0_4, .slice A0_5 l0_5.length c0_5] 35 (0, 0)) (by (with_reducible repeat (first | refine blk_drewN ?_ _ | refine blk_drew ?_ | refine blk_alloc ?_ _)); exact BK34101.out) hb)
                  have n3_ := Aside0.mk (blk_below (g := gb34111) (o := .cells #[.int .i64 t34103, .int .i64 t34104, .int .i64 t34105, .int .i64 t34106, .int .i64 t34107, .slice Ao17 t34108.length co17] 35 (0, 0)) (by (with_reducible repeat (first | refine blk_drewN ?_ _ | refine blk_drew ?_ | refine blk_alloc ?_ _)); exact BK34111.out) hb)
                  have n4_ := Aside0.mk (below_step (by repeat (first | (with_reducible first | exact HB.out | apply below_alloc | apply pw_below_drewN | apply below_drew1 | refine below_set ?_ GE34101.out | refine below_set ?_ GE34111.out) | exact HB.out)) hb)
                  clear HO_8
                  clear HO_34112005
                  clear BK34101
                  clear BK34111
                  clear HB
                  have HO_8 := n0_
                  have HO_34112005 := n1_
                  have BK34101 := n2_
                  have BK34111 := n3_
                  have HB := n4_
                  clear n0_ n1_ n2_ n3_ n4_
                  (try clear hb)
                  (try clear hb2)
                  (try clear hk)
                  (try clear hi)
                  refine hK.out _ _ ⟨(blk_cell BK34111.out 0).trans rfl, (blk_cell BK34111.out 1).trans rfl, (blk_cell BK34111.out 2).trans rfl, (blk_cell BK34111.out 3).trans rfl, (blk_cell BK34111.out 4).trans rfl, (blk_cell BK34111.out 5).trans rfl⟩ (fun hHeld => ?_)
                  clear hK K
                  refine norm_ (a' := ?_) ?_ ?_
                  rotate_left
                  · show Act.put _ (some 74) _ = _
                    simp only [Act.put, List.setIfInBounds_toArray, List.set_cons_zero, List.set_cons_succ, i64_w, i32_w]
                    rfl
                  refine pure_ (i := 17) (N := some 75) (v := ?_) (a' := ?_) #[true, true, true, true, true, true, true, true, true, true, true, true, true, true, true, true, true, true, false, false, false, false, false, false, false, false, false, false, false, false, false, false, false, false, false, false] rfl rfl (any_of HT_.out (by kernel_rfl)) (fun _ _ _ h => h) (Or.inl ⟨by rfl, ?_⟩) ?_ ?_
                  rotate_left
                  · intro w'
                    go_simp
                    with_reducible rfl
                  rotate_left
                  · simp only [Act.put, List.setIfInBounds_toArray, List.set_cons_zero, List.set_cons_succ, i64_w, i32_w]
                    rfl
                  refine pure_ (i := 18) (N := some 76) (v := ?_) (a' := ?_) #[true, true, true, true, true, true, true, true, true, true, true, true, true, true, true, true, true, true, true, false, false, false, false, false, false, false, false, false, false, false, false, false, false, false, false, false] rfl rfl (any_of HT_.out (by kernel_rfl)) (fun _ _ _ h => h) (Or.inl ⟨by rfl, ?_⟩) ?_ ?_
                  rotate_left
                  · intro w'
                    go_simp
                    with_reducible rfl
                  rotate_left
                  · simp only [Act.put, List.setIfInBounds_toArray, List.set_cons_zero, List.set_cons_succ, i64_w, i32_w]
                    rfl
                  refine pure_ (i := 19) (N := some 77) (v := ?_) (a' := ?_) #[true, true, true, true, true, true, true, true, true, true, true, true, true, true, true, true, true, true, true, true, false, false, false, false, false, false, false, false, false, false, false, false, false, false, false, false] rfl rfl (any_of HT_.out (by kernel_rfl)) (fun _ _ _ h => h) (Or.inl ⟨by rfl, ?_⟩) ?_ ?_
                  rotate_left
                  · intro w'
                    go_simp
                    with_reducible rfl
                  rotate_left
                  · simp only [Act.put, List.setIfInBounds_toArray, List.set_cons_zero, List.set_cons_succ, i64_w, i32_w]
                    rfl
                  refine take_ (i := 20) (N := some 78) (v := ?_) (a' := ?_) #[true, true, true, true, true, true, true, true, true, true, true, true, true, true, true, true, true, true, true, true, true, false, false, false, false, false, false, false, false, false, false, false, false, false, false, false] rfl rfl (take_ofW HT_.out HW_.out (by kernel_rfl)) (fun _ _ _ h => h) (Or.inl ⟨by rfl, ?_⟩) hHeld ?_ ?_
                  rotate_left
                  · rintro w' ⟨s0, s1, s2, s3, s4, s5⟩
                    go_simp
                    with_reducible rfl
                  rotate_left
                  · simp only [Act.put, List.setIfInBounds_toArray, List.set_cons_zero, List.set_cons_succ, i64_w, i32_w]
                    rfl
                  refine take_ (i := 22) (N := some 80) (v := ?_) (a' := ?_) #[true, true, true, true, true, true, true, true, true, true, true, true, true, true, true, true, true, true, true, true, true, false, true, false, false, false, false, false, false, false, false, false, false, false, false, false] rfl rfl (take_ofW HT_.out HW_.out (by kernel_rfl)) (fun _ _ _ h => h) (Or.inl ⟨by rfl, ?_⟩) hHeld ?_ ?_
                  rotate_left
                  · rintro w' ⟨s0, s1, s2, s3, s4, s5⟩
                    go_simp
                    with_reducible rfl
                  rotate_left
                  · simp only [Act.put, List.setIfInBounds_toArray, List.set_cons_zero, List.set_cons_succ, i64_w, i32_w]
                    rfl
                  refine one_ (i := 21) (N := some 79) #[true, true, true, true, true, true, true, true, true, true, true, true, true, true, true, true, true, true, true, true, true, true, true, false, false, false, false, false, false, false, false, false, false, false, false, false] rfl rfl (one_of HT_.out (by kernel_rfl)) (by decide) (fun K hK => ?_)
                  refine goes_ Try.func32 (by kernel_rfl) rfl #[.agg #[.int .i64 t34103, .int .i64 t34104, .int .i64 t34105, .int .i64 t34106, .int .i64 t34107, .slice Ao17 t34108.length co17]] (by rfl) rfl rfl (by (try simp only [List.map_toArray, List.map_cons, List.map_nil]); first | done | rfl | (simp only [List.length_drop, List.length_take]; rfl)) ?_
                  with_reducible refine (conf_Limit.calls t34103 t34104 t34105 t34106 t34107 _ _ t34108 t34142 _ ?side1 ?side2 A51.out).mono ?_
                  (case side1 => repeat (first | exact (Kd.R_reads' HO_34112005.out).2.2 | (with_reducible refine Kd.C_alloc ?_ _) | (with_reducible refine Kd.C_drewN ?_ _) | (with_reducible refine Kd.C_drew ?_)))
                  (case side2 => exact (Kd.R_reads' HO_34112005.out).2.1)
                  rintro e w63 ⟨rfl, hb⟩
                  refine ⟨_, rfl, ?_⟩
                  have n0_ := Aside0.mk (Kd.R_below (by (with_reducible repeat (first | apply Kd.R_alloc | apply Kd.R_drewN | apply Kd.R_drew)); exact HO_8.out) hb)
                  have n1_ := Aside0.mk (Kd.R_below (by (with_reducible repeat (first | apply Kd.R_alloc | apply Kd.R_drewN | apply Kd.R_drew)); exact HO_34112005.out) hb)
                  have n2_ := Aside0.mk (blk_below (g := gb34101) (o := .cells #[.int .i64 a0_0, .int .i64 a0_1, .int .i64 a0_2, .int .i64 a0_3, .int .i64 a0_4, .slice A0_5 l0_5.length c0_5] 35 (0, 0)) (by (with_reducible repeat (first | refine blk_drewN ?_ _ | refine blk_drew ?_ | refine blk_alloc ?_ _)); exact BK34101.out) hb)
                  have n3_ := Aside0.mk (blk_below (g := gb34111) (o := .cells #[.int .i64 t34103, .int .i64 t34104, .int .i64 t34105, .int .i64 t34106, .int .i64 t34107, .slice Ao17 t34108.length co17] 35 (0, 0)) (by (with_reducible repeat (first | refine blk_drewN ?_ _ | refine blk_drew ?_ | refine blk_alloc ?_ _)); exact BK34111.out) hb)
                  have n4_ := Aside0.mk (below_step (by repeat (first | (with_reducible first | exact HB.out | apply below_alloc | apply pw_below_drewN | apply below_drew1 | refine below_set ?_ GE34101.out | refine below_set ?_ GE34111.out) | exact HB.out)) hb)
                  clear HO_8
                  clear HO_34112005
                  clear BK34101
                  clear BK34111
                  clear HB
                  have HO_8 := n0_
                  have HO_34112005 := n1_
                  have BK34101 := n2_
                  have BK34111 := n3_
                  have HB := n4_
                  clear n0_ n1_ n2_ n3_ n4_
                  (try clear hb)
                  (try clear hb2)
                  (try clear hk)
                  (try clear hi)
                  refine hK.out _ _ ⟨(blk_cell BK34111.out 0).trans rfl, (blk_cell BK34111.out 1).trans rfl, (blk_cell BK34111.out 2).trans rfl, (blk_cell BK34111.out 3).trans rfl, (blk_cell BK34111.out 4).trans rfl, (blk_cell BK34111.out 5).trans rfl⟩ (fun hHeld => ?_)
                  clear hK K
                  refine norm_ (a' := ?_) ?_ ?_
                  rotate_left
                  · show Act.put _ (some 79) _ = _
                    simp only [Act.put, List.setIfInBounds_toArray, List.set_cons_zero, List.set_cons_succ, i64_w, i32_w]
                    rfl
                  refine one_ (i := 23) (N := some 81) #[true, true, true, true, true, true, true, true, true, true, true, true, true, true, true, true, true, true, true, true, true, true, true, true, false, false, false, false, false, false, false, false, false, false, false, false] rfl rfl (one_of HT_.out (by kernel_rfl)) (by decide) (fun K hK => ?_)
                  refine goes_ Try.func59 (by kernel_rfl) rfl #[.agg #[.int .i64 t34103, .int .i64 t34104, .int .i64 t34105, .int .i64 t34106, .int .i64 t34107, .slice Ao17 t34108.length co17]] (by rfl) rfl rfl (by (try simp only [List.map_toArray, List.map_cons, List.map_nil]); first | done | rfl | (simp only [List.length_drop, List.length_take]; rfl)) ?_
                  with_reducible refine (plaitingref3_Limit.calls t34103 t34104 t34105 t34106 t34107 _ _ t34108 t34143 _ ?side1 ?side2 A52.out).mono ?_
                  (case side1 => repeat (first | exact (Kd.R_reads' HO_34112005.out).2.2 | (with_reducible refine Kd.C_alloc ?_ _) | (with_reducible refine Kd.C_drewN ?_ _) | (with_reducible refine Kd.C_drew ?_)))
                  (case side2 => exact (Kd.R_reads' HO_34112005.out).2.1)
                  rintro e w64 ⟨rfl, hb⟩
                  refine ⟨_, rfl, ?_⟩
                  have n0_ := Aside0.mk (Kd.R_below (by (with_reducible repeat (first | apply Kd.R_alloc | apply Kd.R_drewN | apply Kd.R_drew)); exact HO_8.out) hb)
                  have n1_ := Aside0.mk (Kd.R_below (by (with_reducible repeat (first | apply Kd.R_alloc | apply Kd.R_drewN | apply Kd.R_drew)); exact HO_34112005.out) hb)
                  have n2_ := Aside0.mk (blk_below (g := gb34101) (o := .cells #[.int .i64 a0_0, .int .i64 a0_1, .int .i64 a0_2, .int .i64 a0_3, .int .i64 a0_4, .slice A0_5 l0_5.length c0_5] 35 (0, 0)) (by (with_reducible repeat (first | refine blk_drewN ?_ _ | refine blk_drew ?_ | refine blk_alloc ?_ _)); exact BK34101.out) hb)
                  have n3_ := Aside0.mk (blk_below (g := gb34111) (o := .cells #[.int .i64 t34103, .int .i64 t34104, .int .i64 t34105, .int .i64 t34106, .int .i64 t34107, .slice Ao17 t34108.length co17] 35 (0, 0)) (by (with_reducible repeat (first | refine blk_drewN ?_ _ | refine blk_drew ?_ | refine blk_alloc ?_ _)); exact BK34111.out) hb)
                  have n4_ := Aside0.mk (below_step (by repeat (first | (with_reducible first | exact HB.out | apply below_alloc | apply pw_below_drewN | apply below_drew1 | refine below_set ?_ GE34101.out | refine below_set ?_ GE34111.out) | exact HB.out)) hb)
                  clear HO_8
                  clear HO_34112005
                  clear BK34101
                  clear BK34111
                  clear HB
                  have HO_8 := n0_
                  have HO_34112005 := n1_
                  have BK34101 := n2_
                  have BK34111 := n3_
                  have HB := n4_
                  clear n0_ n1_ n2_ n3_ n4_
                  (try clear hb)
                  (try clear hb2)
                  (try clear hk)
                  (try clear hi)
                  refine hK.out _ _ ⟨(blk_cell BK34111.out 0).trans rfl, (blk_cell BK34111.out 1).trans rfl, (blk_cell BK34111.out 2).trans rfl, (blk_cell BK34111.out 3).trans rfl, (blk_cell BK34111.out 4).trans rfl, (blk_cell BK34111.out 5).trans rfl⟩ (fun hHeld => ?_)
                  clear hK K
                  refine norm_ (a' := ?_) ?_ ?_
                  rotate_left
                  · show Act.put _ (some 81) _ = _
                    simp only [Act.put, List.setIfInBounds_toArray, List.set_cons_zero, List.set_cons_succ, i64_w, i32_w]
                    rfl
                  refine pure_ (i := 24) (N := some 82) (v := ?_) (a' := ?_) #[true, true, true, true, true, true, true, true, true, true, true, true, true, true, true, true, true, true, true, true, true, true, true, true, true, false, false, false, false, false, false, false, false, false, false, false] rfl rfl (any_of HT_.out (by kernel_rfl)) (fun _ _ _ h => h) (Or.inl ⟨by rfl, ?_⟩) ?_ ?_
                  rotate_left
                  · intro w'
                    go_simp
                    with_reducible rfl
                  rotate_left
                  · simp only [Act.put, List.setIfInBounds_toArray, List.set_cons_zero, List.set_cons_succ, i64_w, i32_w]
                    rfl
                  refine pure_ (i := 25) (N := some 83) (v := ?_) (a' := ?_) #[true, true, true, true, true, true, true, true, true, true, true, true, true, true, true, true, true, true, true, true, true, true, true, true, true, true, false, false, false, false, false, false, false, false, false, false] rfl rfl (any_of HT_.out (by kernel_rfl)) (fun _ _ _ h => h) (Or.inl ⟨by rfl, ?_⟩) ?_ ?_
                  rotate_left
                  · intro w'
                    go_simp
                    with_reducible rfl
                  rotate_left
                  · simp only [Act.put, List.setIfInBounds_toArray, List.set_cons_zero, List.set_cons_succ, i64_w, i32_w]
                    rfl
                  refine pure_ (i := 26) (N := some 84) (v := ?_) (a' := ?_) #[true, true, true, true, true, true, true, true, true, true, true, true, true, true, true, true, true, true, true, true, true, true, true, true, true, true, true, false, false, false, false, false, false, false, false, false] rfl rfl (any_of HT_.out (by kernel_rfl)) (fun _ _ _ h => h) (Or.inl ⟨by rfl, ?_⟩) ?_ ?_
                  rotate_left
                  · intro w'
                    go_simp
                    with_reducible rfl
                  rotate_left
                  · simp only [Act.put, List.setIfInBounds_toArray, List.set_cons_zero, List.set_cons_succ, i64_w, i32_w]
                    rfl
                  refine pure_ (i := 28) (N := some 86) (v := ?_) (a' := ?_) #[true, true, true, true, true, true, true, true, true, true, true, true, true, true, true, true, true, true, true, true, true, true, true, true, true, true, true, false, true, false, false, false, false, false, false, false] rfl rfl (any_of HT_.out (by kernel_rfl)) (fun _ _ _ h => h) (Or.inl ⟨by rfl, ?_⟩) ?_ ?_
                  rotate_left
                  · intro w'
                    go_simp
                    with_reducible rfl
                  rotate_left
                  · simp only [Act.put, List.setIfInBounds_toArray, List.set_cons_zero, List.set_cons_succ, i64_w, i32_w]
                    rfl
                  refine pure_ (i := 31) (N := some 89) (v := ?_) (a' := ?_) #[true, true, true, true, true, true, true, true, true, true, true, true, true, true, true, true, true, true, true, true, true, true, true, true, true, true, true, false, true, false, false, true, false, false, false, false] rfl rfl (any_of HT_.out (by kernel_rfl)) (fun _ _ _ h => h) (Or.inl ⟨by rfl, ?_⟩) ?_ ?_
                  rotate_left
                  · intro w'
                    go_simp
                    with_reducible rfl
                  rotate_left
                  · simp only [Act.put, List.setIfInBounds_toArray, List.set_cons_zero, List.set_cons_succ, i64_w, i32_w]
                    rfl
                  refine take_ (i := 27) (N := some 85) (v := ?_) (a' := ?_) #[true, true, true, true, true, true, true, true, true, true, true, true, true, true, true, true, true, true, true, true, true, true, true, true, true, true, true, true, true, false, false, true, false, false, false, false] rfl rfl (take_ofW HT_.out HW_.out (by kernel_rfl)) (fun _ _ _ h => h) (Or.inl ⟨by rfl, ?_⟩) hHeld ?_ ?_
                  rotate_left
                  · rintro w' ⟨s0, s1, s2, s3, s4, s5⟩
                    go_simp
                    with_reducible rfl
                  rotate_left
                  · simp only [Act.put, List.setIfInBounds_toArray, List.set_cons_zero, List.set_cons_succ, i64_w, i32_w]
                    rfl
                  refine take_ (i := 30) (N := some 88) (v := ?_) (a' := ?_) #[true, true, true, true, true, true, true, true, true, true, true, true, true, true, true, true, true, true, true, true, true, true, true, true, true, true, true, true, true, false, true, true, false, false, false, false] rfl rfl (take_ofW HT_.out HW_.out (by kernel_rfl)) (fun _ _ _ h => h) (Or.inl ⟨by rfl, ?_⟩) hHeld ?_ ?_
                  rotate_left
                  · rintro w' ⟨s0, s1, s2, s3, s4, s5⟩
                    go_simp
                    with_reducible rfl
                  rotate_left
                  · simp only [Act.put, List.setIfInBounds_toArray, List.set_cons_zero, List.set_cons_succ, i64_w, i32_w]
                    rfl
                  refine one_ (i := 29) (N := some 87) #[true, true, true, true, true, true, true, true, true, true, true, true, true, true, true, true, true, true, true, true, true, true, true, true, true, true, true, true, true, true, true, true, false, false, false, false] rfl rfl (one_of HT_.out (by kernel_rfl)) (by decide) (fun K hK => ?_)
                  refine goes_ Try.func30 (by kernel_rfl) rfl #[.agg #[.int .i64 t34103, .int .i64 t34104, .int .i64 t34105, .int .i64 t34106, .int .i64 t34107, .slice Ao17 t34108.length co17], .int .i64 t34112] (by rfl) rfl rfl (by (try simp only [List.map_toArray, List.map_cons, List.map_nil]); first | done | rfl | (simp only [List.length_drop, List.length_take]; rfl)) ?_
                  with_reducible refine (conf_Wire.calls t34103 t34104 t34105 t34106 t34107 _ _ t34108 t34112 t34144 _ ?side1 ?side2 A54.out).mono ?_
                  (case side1 => repeat (first | exact (Kd.R_reads' HO_34112005.out).2.2 | (with_reducible refine Kd.C_alloc ?_ _) | (with_reducible refine Kd.C_drewN ?_ _) | (with_reducible refine Kd.C_drew ?_)))
                  (case side2 => exact (Kd.R_reads' HO_34112005.out).2.1)
                  rintro e w65 ⟨rfl, hb⟩
                  refine ⟨_, rfl, ?_⟩
                  have n0_ := Aside0.mk (Kd.R_below (by (with_reducible repeat (first | apply Kd.R_alloc | apply Kd.R_drewN | apply Kd.R_drew)); exact HO_8.out) hb)
                  have n1_ := Aside0.mk (Kd.R_below (by (with_reducible repeat (first | apply Kd.R_alloc | apply Kd.R_drewN | apply Kd.R_drew)); exact HO_34112005.out) hb)
                  have n2_ := Aside0.mk (blk_below (g := gb34101) (o := .cells #[.int .i64 a0_0, .int .i64 a0_1, .int .i64 a0_2, .int .i64 a0_3, .int .i64 a0_4, .slice A0_5 l0_5.length c0_5] 35 (0, 0)) (by (with_reducible repeat (first | refine blk_drewN ?_ _ | refine blk_drew ?_ | refine blk_alloc ?_ _)); exact BK34101.out) hb)
                  have n3_ := Aside0.mk (blk_below (g := gb34111) (o := .cells #[.int .i64 t34103, .int .i64 t34104, .int .i64 t34105, .int .i64 t34106, .int .i64 t34107, .slice Ao17 t34108.length co17] 35 (0, 0)) (by (with_reducible repeat (first | refine blk_drewN ?_ _ | refine blk_drew ?_ | refine blk_alloc ?_ _)); exact BK34111.out) hb)
                  have n4_ := Aside0.mk (below_step (by repeat (first | (with_reducible first | exact HB.out | apply below_alloc | apply pw_below_drewN | apply below_drew1 | refine below_set ?_ GE34101.out | refine below_set ?_ GE34111.out) | exact HB.out)) hb)
                  clear HO_8
                  clear HO_34112005
                  clear BK34101
                  clear BK34111
                  clear HB
                  have HO_8 := n0_
                  have HO_34112005 := n1_
                  have BK34101 := n2_
                  have BK34111 := n3_
                  have HB := n4_
                  clear n0_ n1_ n2_ n3_ n4_
                  (try clear hb)
                  (try clear hb2)
                  (try clear hk)
                  (try clear hi)
                  refine hK.out _ _ ⟨(blk_cell BK34111.out 0).trans rfl, (blk_cell BK34111.out 1).trans rfl, (blk_cell BK34111.out 2).trans rfl, (blk_cell BK34111.out 3).trans rfl, (blk_cell BK34111.out 4).trans rfl, (blk_cell BK34111.out 5).trans rfl⟩ (fun hHeld => ?_)
                  clear hK K
                  refine norm_ (a' := ?_) ?_ ?_
                  rotate_left
                  · show Act.put _ (some 87) _ = _
                    simp only [Act.put, List.setIfInBounds_toArray, List.set_cons_zero, List.set_cons_succ, i64_w, i32_w]
                    rfl
                  refine one_ (i := 32) (N := some 90) #[true, true, true, true, true, true, true, true, true, true, true, true, true, true, true, true, true, true, true, true, true, true, true, true, true, true, true, true, true, true, true, true, true, false, false, false] rfl rfl (one_of HT_.out (by kernel_rfl)) (by decide) (fun K hK => ?_)
                  refine goes_ Try.func60 (by kernel_rfl) rfl #[.agg #[.int .i64 t34103, .int .i64 t34104, .int .i64 t34105, .int .i64 t34106, .int .i64 t34107, .slice Ao17 t34108.length co17], .int .i64 t34112] (by rfl) rfl rfl (by (try simp only [List.map_toArray, List.map_cons, List.map_nil]); first | done | rfl | (simp only [List.length_drop, List.length_take]; rfl)) ?_
                  with_reducible refine (plaitingref3_Wire.calls t34103 t34104 t34105 t34106 t34107 _ _ t34108 t34112 t34145 _ ?side1 ?side2 A55.out).mono ?_
                  (case side1 => repeat (first | exact (Kd.R_reads' HO_34112005.out).2.2 | (with_reducible refine Kd.C_alloc ?_ _) | (with_reducible refine Kd.C_drewN ?_ _) | (with_reducible refine Kd.C_drew ?_)))
                  (case side2 => exact (Kd.R_reads' HO_34112005.out).2.1)
                  rintro e w66 ⟨rfl, hb⟩
                  refine ⟨_, rfl, ?_⟩
                  have n0_ := Aside0.mk (Kd.R_below (by (with_reducible repeat (first | apply Kd.R_alloc | apply Kd.R_drewN | apply Kd.R_drew)); exact HO_8.out) hb)
                  have n1_ := Aside0.mk (Kd.R_below (by (with_reducible repeat (first | apply Kd.R_alloc | apply Kd.R_drewN | apply Kd.R_drew)); exact HO_34112005.out) hb)
                  have n2_ := Aside0.mk (blk_below (g := gb34101) (o := .cells #[.int .i64 a0_0, .int .i64 a0_1, .int .i64 a0_2, .int .i64 a0_3, .int .i64 a0_4, .slice A0_5 l0_5.length c0_5] 35 (0, 0)) (by (with_reducible repeat (first | refine blk_drewN ?_ _ | refine blk_drew ?_ | refine blk_alloc ?_ _)); exact BK34101.out) hb)
                  have n3_ := Aside0.mk (blk_below (g := gb34111) (o := .cells #[.int .i64 t34103, .int .i64 t34104, .int .i64 t34105, .int .i64 t34106, .int .i64 t34107, .slice Ao17 t34108.length co17] 35 (0, 0)) (by (with_reducible repeat (first | refine blk_drewN ?_ _ | refine blk_drew ?_ | refine blk_alloc ?_ _)); exact BK34111.out) hb)
                  have n4_ := Aside0.mk (below_step (by repeat (first | (with_reducible first | exact HB.out | apply below_alloc | apply pw_below_drewN | apply below_drew1 | refine below_set ?_ GE34101.out | refine below_set ?_ GE34111.out) | exact HB.out)) hb)
                  clear HO_8
                  clear HO_34112005
                  clear BK34101
                  clear BK34111
                  clear HB
                  have HO_8 := n0_
                  have HO_34112005 := n1_
                  have BK34101 := n2_
                  have BK34111 := n3_
                  have HB := n4_
                  clear n0_ n1_ n2_ n3_ n4_
                  (try clear hb)
                  (try clear hb2)
                  (try clear hk)
                  (try clear hi)
                  refine hK.out _ _ ⟨(blk_cell BK34111.out 0).trans rfl, (blk_cell BK34111.out 1).trans rfl, (blk_cell BK34111.out 2).trans rfl, (blk_cell BK34111.out 3).trans rfl, (blk_cell BK34111.out 4).trans rfl, (blk_cell BK34111.out 5).trans rfl⟩ (fun hHeld => ?_)
                  clear hK K
                  refine norm_ (a' := ?_) ?_ ?_
                  rotate_left
                  · show Act.put _ (some 90) _ = _
                    simp only [Act.put, List.setIfInBounds_toArray, List.set_cons_zero, List.set_cons_succ, i64_w, i32_w]
                    rfl
                  refine pure_ (i := 33) (N := some 91) (v := ?_) (a' := ?_) #[true, true, true, true, true, true, true, true, true, true, true, true, true, true, true, true, true, true, true, true, true, true, true, true, true, true, true, true, true, true, true, true, true, true, false, false] rfl rfl (any_of HT_.out (by kernel_rfl)) (fun _ _ _ h => h) (Or.inl ⟨by rfl, ?_⟩) ?_ ?_
                  rotate_left
                  · intro w'
                    go_simp
                    with_reducible rfl
                  rotate_left
                  · simp only [Act.put, List.setIfInBounds_toArray, List.set_cons_zero, List.set_cons_succ, i64_w, i32_w]
                    rfl
                  refine pure_ (i := 34) (N := some 92) (v := ?_) (a' := ?_) #[true, true, true, true, true, true, true, true, true, true, true, true, true, true, true, true, true, true, true, true, true, true, true, true, true, true, true, true, true, true, true, true, true, true, true, false] rfl rfl (any_of HT_.out (by kernel_rfl)) (fun _ _ _ h => h) (Or.inl ⟨by rfl, ?_⟩) ?_ ?_
                  rotate_left
                  · intro w'
                    go_simp
                    with_reducible rfl
                  rotate_left
                  · simp only [Act.put, List.setIfInBounds_toArray, List.set_cons_zero, List.set_cons_succ, i64_w, i32_w]
                    rfl
                  refine pure_ (i := 35) (N := some 6) (v := ?_) (a' := ?_) #[true, true, true, true, true, true, true, true, true, true, true, true, true, true, true, true, true, true, true, true, true, true, true, true, true, true, true, true, true, true, true, true, true, true, true, true] rfl rfl (any_of HT_.out (by kernel_rfl)) (fun _ _ _ h => h) (Or.inl ⟨by rfl, ?_⟩) ?_ ?_
                  rotate_left
                  · intro w'
                    go_simp
                    with_reducible rfl
                  rotate_left
                  · simp only [Act.put, List.setIfInBounds_toArray, List.set_cons_zero, List.set_cons_succ, i64_w, i32_w]
                    rfl
                  refine done_ (done_of HT_.out (by kernel_rfl)) ?_
                  try go_wp2
                  go_ret
                  exact ⟨by first | rfl | (simp [errW_none, errW_some] <;> rfl) | (simp [*, errW_none, errW_some] <;> rfl), by repeat (first | (with_reducible first | exact HB.out | apply below_alloc | apply pw_below_drewN | apply below_drew1 | refine below_set ?_ GE34101.out | refine below_set ?_ GE34111.out) | exact HB.out)⟩
                · rw [if_neg c53] at H
                  have c53b0 : (t34142 == t34143) = false := beq_eq_false_iff_ne.mpr c53
                  have c53b1 : (t34142 != t34143) = true := bne_iff_ne.mpr c53
                  exact absurd ((Option.some.inj H).trans HRT.out) (by decide)
              · rw [if_neg c50] at H
                have c50b0 : (t34140 == t34141) = false := beq_eq_false_iff_ne.mpr c50
                have c50b1 : (t34140 != t34141) = true := bne_iff_ne.mpr c50
                exact absurd ((Option.some.inj H).trans HRT.out) (by decide)
            · rw [if_neg c47] at H
              have c47b0 : (t34138 == t34139) = false := beq_eq_false_iff_ne.mpr c47
              have c47b1 : (t34138 != t34139) = true := bne_iff_ne.mpr c47
              exact absurd ((Option.some.inj H).trans HRT.out) (by decide)
          · rw [if_neg c44] at H
            have c44b0 : (t34136 == t34137) = false := beq_eq_false_iff_ne.mpr c44
            have c44b1 : (t34136 != t34137) = true := bne_iff_ne.mpr c44
            exact absurd ((Option.some.inj H).trans HRT.out) (by decide)
  · replace c5 := Bool.eq_false_iff.mpr c5
    subst c5
    have H1 : (some false) = some r := by rw [if_neg (show ¬ (false = true) by decide)] at H; exact H
    clear H
    have H := H1
    clear H1
    exact absurd ((Option.some.inj H).trans HRT.out) (by decide)

/-- The pure statement of plaitinglaw3_ConfAll. -/
def plaitinglaw3_ConfAll.Pure : Prop := ∀ (a0_0 : Int) (a0_1 : Int) (a0_2 : Int) (a0_3 : Int) (a0_4 : Int) (l0_5 : List Int) (a1 : Int) (a2 : Int), ((Lit.int .i64 a0_0).wf = true) → ((Lit.int .i64 a0_1).wf = true) → ((Lit.int .i64 a0_2).wf = true) → ((Lit.int .i64 a0_3).wf = true) → ((Lit.int .i64 a0_4).wf = true) → (l0_5.length ≤ maxLen ∧ ∀ y_ ∈ l0_5, (Lit.int .i64 y_).wf = true) → ((Lit.int .i64 a1).wf = true) → ((Lit.int .i64 a2).wf = true) → ∃ k, plaitinglaw3_ConfAll.f k a0_0 a0_1 a0_2 a0_3 a0_4 l0_5 a1 a2 = some true
theorem plaitinglaw3_ConfAll.walk (P : plaitinglaw3_ConfAll.Pure) (a0_0 : Int) (a0_1 : Int) (a0_2 : Int) (a0_3 : Int) (a0_4 : Int) (A0_5 : Option Addr) (c0_5 : Nat) (l0_5 : List Int) (a1 : Int) (a2 : Int) (w : World) (q0 : (Lit.int .i64 a0_0).wf = true) (q1 : (Lit.int .i64 a0_1).wf = true) (q2 : (Lit.int .i64 a0_2).wf = true) (q3 : (Lit.int .i64 a0_3).wf = true) (q4 : (Lit.int .i64 a0_4).wf = true) (q5 : l0_5.length ≤ maxLen ∧ ∀ y_ ∈ l0_5, (Lit.int .i64 y_).wf = true) (q6 : (Lit.int .i64 a1).wf = true) (q7 : (Lit.int .i64 a2).wf = true) (hr0_5 : Kd.C (Kd.int .i64) w A0_5 l0_5.length l0_5) (hc0_5 : l0_5.length ≤ c0_5) :
    Calls Try.prog 17 #[.agg #[.int .i64 a0_0, .int .i64 a0_1, .int .i64 a0_2, .int .i64 a0_3, .int .i64 a0_4, .slice A0_5 l0_5.length c0_5], .int .i64 a1, .int .i64 a2] w fun e w' => e = .returned (.bool true) ∧ Below w.heap.size w w' := by
  obtain ⟨k, h⟩ := P a0_0 a0_1 a0_2 a0_3 a0_4 l0_5 a1 a2 q0 q1 q2 q3 q4 q5 q6 q7
  refine (plaitinglaw3_ConfAll.calls k a0_0 a0_1 a0_2 a0_3 a0_4 A0_5 c0_5 l0_5 a1 a2 true w hr0_5 hc0_5 rfl h).mono ?_
  rintro e w' ⟨rfl, hd⟩
  exact ⟨rfl, hd⟩

end Go.Proofs.Ytdkbalaphblobaa.P
