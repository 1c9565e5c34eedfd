/- Printed by a program of this session (myprint) out of the translation: the functions as plain Lean functions, and that the calls compute them. What counts is Lean's check. -/
import Derived.Test.YtdkbalaphblobaaPx0
import Derived.Test.YtdkbalaphblobaaPx8
import Derived.Test.YtdkbalaphblobaaPx10
import Derived.Test.YtdkbalaphblobaaPx11
namespace Go.Proofs.Ytdkbalaphblobaa.P
open Go.RowKit Go.Proofs.YtdkbalaphblobaaW.PrintWords Go.Proofs.YtdkbalaphblobaaW.PrintLast Go.Proofs.YtdkbalaphblobaaW.PrintMore
attribute [local go_sem] max2_int min2_int max_two min_two max_three min_three max_four min_four   -- for this text's walks alone
set_option linter.unusedVariables false
set_option linter.unusedSimpArgs false

/-! ### plaitinglaw3_ConfRounds: function 7 -/
def plaitinglaw3_ConfRounds.f (k : Nat) (a0_0 : Int) (a0_1 : Int) (a0_2 : Int) (a0_3 : Int) (a0_4 : Int) (l0_5 : List Int) (a1 : Int) : Option (Bool) := (plaitinglaw3_known.f).bind fun t14102 => (if t14102 = true then ((plaitinglaw3_Make.f k a0_0 a0_1 a0_2 a0_3 a0_4 l0_5).bind fun bt14103 => ((plaitinglaw3_within.f a1 200000).bind fun t14112 => ((conf_Wire.f bt14103.1 bt14103.2.1 bt14103.2.2.1 bt14103.2.2.2.1 bt14103.2.2.2.2.1 bt14103.2.2.2.2.2 t14112).bind fun t14113 => ((conf_Wire.f bt14103.1 bt14103.2.1 bt14103.2.2.1 bt14103.2.2.2.1 bt14103.2.2.2.2.1 bt14103.2.2.2.2.2 (wrap64 (t14112 + 1))).bind fun t14114 => (if t14113 ≥ 0 then (if t14113 ≤ 65535 then (if t14114 = (wrap64 (t14113 + 1)) then ((conf_Wire.f bt14103.1 bt14103.2.1 bt14103.2.2.1 bt14103.2.2.2.1 bt14103.2.2.2.2.1 bt14103.2.2.2.2.2 (wrap64 (t14112 + 65536))).bind fun t14115 => (if t14115 = t14113 then ((conf_Wire.f bt14103.1 bt14103.2.1 bt14103.2.2.1 bt14103.2.2.2.1 bt14103.2.2.2.2.1 bt14103.2.2.2.2.2 0).bind fun t14116 => (some (t14116 == bt14103.2.2.2.2.1))) else (some false))) else (if t14113 = 65535 then (if t14114 = 0 then ((conf_Wire.f bt14103.1 bt14103.2.1 bt14103.2.2.1 bt14103.2.2.2.1 bt14103.2.2.2.2.1 bt14103.2.2.2.2.2 (wrap64 (t14112 + 65536))).bind fun t14117 => (if t14117 = t14113 then ((conf_Wire.f bt14103.1 bt14103.2.1 bt14103.2.2.1 bt14103.2.2.2.1 bt14103.2.2.2.2.1 bt14103.2.2.2.2.2 0).bind fun t14118 => (some (t14118 == bt14103.2.2.2.2.1))) else (some false))) else (some false)) else (some false))) else (some false)) else (some false)))))) else (some false))
theorem plaitinglaw3_ConfRounds.mono : ∀ a0 a1 a2 a3 a4 a5 a6 k, LeO (plaitinglaw3_ConfRounds.f k a0 a1 a2 a3 a4 a5 a6) (plaitinglaw3_ConfRounds.f (k + 1) a0 a1 a2 a3 a4 a5 a6) := by
  intro a0 a1 a2 a3 a4 a5 a6 k
  unfold plaitinglaw3_ConfRounds.f
  repeat' first
      | (with_reducible exact plaitinglaw3_Make.mono _ _ _ _ _ _ _)
      | (with_reducible exact LeO.refl _)
      | (with_reducible exact LeO.none _)
      | (with_reducible refine LeO.ite ?_ ?_)
      | (with_reducible refine LeO.bind ?_ (fun _ => ?_))
      | exact plaitinglaw3_Make.mono _ _ _ _ _ _ _
      | exact LeO.none _
      | refine LeO.ite ?_ ?_
      | refine LeO.bind ?_ (fun _ => ?_)
def plaitinglaw3_ConfRounds.T5 : Bool × List (List Nat × List Nat) := (true, [([], []), ([], []), ([0, 1], [0, 1]), ([], []), ([], []), ([4], [4]), ([3, 5, 2], [3, 5]), ([2, 6, 0, 1, 2], [2]), ([6, 7, 0, 1, 2, 3, 4, 5, 6, 7], [6])])
def plaitinglaw3_ConfRounds.B5 : List Nat := [0, 0, 3, 0, 0, 16, 63, 127, 255]
theorem plaitinglaw3_ConfRounds.tab5 : rtab .any (opsOf Try.f7 5) = plaitinglaw3_ConfRounds.T5 := by kernel_rfl
theorem plaitinglaw3_ConfRounds.bits5 : waitsOk plaitinglaw3_ConfRounds.T5.2 plaitinglaw3_ConfRounds.B5 = true := by kernel_rfl
def plaitinglaw3_ConfRounds.T6 : Bool × List (List Nat × List Nat) := (true, [([], []), ([0], [0]), ([1], [1]), ([2], [2]), ([3, 2], [2, 3]), ([2, 4], [2, 4]), ([5, 2], [5]), ([6], [6]), ([6], [6]), ([8, 6], [6, 8]), ([7, 9, 6], [6, 7, 9]), ([10, 6, 6], [6, 10]), ([11], [11]), ([12, 11], [11, 12]), ([13, 11, 11], [11, 13]), ([14], [14]), ([15, 14], [14, 15]), ([14, 16, 11], [11, 14, 16]), ([11, 17, 6], [6, 11, 17]), ([6, 18], [6, 18]), ([19, 14], [19]), ([20], [20]), ([20], [20]), ([22, 20], [20, 22]), ([21, 23, 20, 20], [20, 21, 23]), ([20], [20]), ([24, 25, 20], [20, 24, 25]), ([20, 26], [20, 26]), ([27, 24], [27]), ([28], [28]), ([29, 28, 28], [28, 29]), ([28], [28]), ([31, 28], [28, 31]), ([30, 32, 28], [28, 30, 32]), ([28, 33], [28, 33]), ([34, 30, 0, 1, 2, 3, 4, 5, 6, 7, 8, 9, 10, 11, 12, 13, 14, 15, 16, 17, 18, 19, 20, 21, 22, 23, 24, 25, 26, 27, 28, 29, 30, 31, 32, 33, 34], [34])])
def plaitinglaw3_ConfRounds.B6 : List Nat := [0, 1, 3, 7, 15, 31, 63, 127, 127, 383, 1023, 2047, 4095, 8191, 16383, 32767, 65535, 131071, 262143, 524287, 1048575, 2097151, 2097151, 6291455, 16777215, 2097151, 67108863, 134217727, 268435455, 536870911, 1073741823, 536870911, 2684354559, 8589934591, 17179869183, 34359738367]
theorem plaitinglaw3_ConfRounds.tab6 : rtab .any (opsOf Try.f7 6) = plaitinglaw3_ConfRounds.T6 := by kernel_rfl
theorem plaitinglaw3_ConfRounds.bits6 : waitsOk plaitinglaw3_ConfRounds.T6.2 plaitinglaw3_ConfRounds.B6 = true := by kernel_rfl
set_option maxHeartbeats 8000000 in
set_option maxRecDepth 100000 in
theorem plaitinglaw3_ConfRounds.calls (k : Nat) (a0_0 : Int) (a0_1 : Int) (a0_2 : Int) (a0_3 : Int) (a0_4 : Int) (A0_5 : Option Addr) (c0_5 : Nat) (l0_5 : List Int) (a1 : Int) (r : Bool) (w : World) (hr0_5 : Kd.C (Kd.int .i64) w A0_5 l0_5.length l0_5) (hc0_5 : l0_5.length ≤ c0_5) (hrt : r = true) (h : plaitinglaw3_ConfRounds.f k a0_0 a0_1 a0_2 a0_3 a0_4 l0_5 a1 = some r) :
    Calls Try.prog 7 #[.agg #[.int .i64 a0_0, .int .i64 a0_1, .int .i64 a0_2, .int .i64 a0_3, .int .i64 a0_4, .slice A0_5 l0_5.length c0_5], .int .i64 a1] w fun e w' => e = .returned (.bool r) ∧ Below w.heap.size w w' := by
  have HRT := Aside0.mk hrt
  clear hrt
  have hu35 := Try.underlying35
  have HR0_5 := Aside0.mk hr0_5
  have HC0_5 := Aside0.mk hc0_5
  clear hr0_5 hc0_5
  have HB := Aside0.mk (Below.refl w.heap.size w)
  have H : ((plaitinglaw3_known.f).bind fun t14102 => (if t14102 = true then ((plaitinglaw3_Make.f k a0_0 a0_1 a0_2 a0_3 a0_4 l0_5).bind fun bt14103 => ((plaitinglaw3_within.f a1 200000).bind fun t14112 => ((conf_Wire.f bt14103.1 bt14103.2.1 bt14103.2.2.1 bt14103.2.2.2.1 bt14103.2.2.2.2.1 bt14103.2.2.2.2.2 t14112).bind fun t14113 => ((conf_Wire.f bt14103.1 bt14103.2.1 bt14103.2.2.1 bt14103.2.2.2.1 bt14103.2.2.2.2.1 bt14103.2.2.2.2.2 (wrap64 (t14112 + 1))).bind fun t14114 => (if t14113 ≥ 0 then (if t14113 ≤ 65535 then (if t14114 = (wrap64 (t14113 + 1)) then ((conf_Wire.f bt14103.1 bt14103.2.1 bt14103.2.2.1 bt14103.2.2.2.1 bt14103.2.2.2.2.1 bt14103.2.2.2.2.2 (wrap64 (t14112 + 65536))).bind fun t14115 => (if t14115 = t14113 then ((conf_Wire.f bt14103.1 bt14103.2.1 bt14103.2.2.1 bt14103.2.2.2.1 bt14103.2.2.2.2.1 bt14103.2.2.2.2.2 0).bind fun t14116 => (some (t14116 == bt14103.2.2.2.2.1))) else (some false))) else (if t14113 = 65535 then (if t14114 = 0 then ((conf_Wire.f bt14103.1 bt14103.2.1 bt14103.2.2.1 bt14103.2.2.2.1 bt14103.2.2.2.2.1 bt14103.2.2.2.2.2 (wrap64 (t14112 + 65536))).bind fun t14117 => (if t14117 = t14113 then ((conf_Wire.f bt14103.1 bt14103.2.1 bt14103.2.2.1 bt14103.2.2.2.1 bt14103.2.2.2.2.1 bt14103.2.2.2.2.2 0).bind fun t14118 => (some (t14118 == bt14103.2.2.2.2.1))) else (some false))) else (some false)) else (some false))) else (some false)) else (some false)))))) else (some false))) = some r := h
  clear h
  replace H := Option.bind_eq_some_iff.mp H
  obtain ⟨t14102, A30, H⟩ := H
  replace H : (if t14102 = true then ((plaitinglaw3_Make.f k a0_0 a0_1 a0_2 a0_3 a0_4 l0_5).bind fun bt14103 => ((plaitinglaw3_within.f a1 200000).bind fun t14112 => ((conf_Wire.f bt14103.1 bt14103.2.1 bt14103.2.2.1 bt14103.2.2.2.1 bt14103.2.2.2.2.1 bt14103.2.2.2.2.2 t14112).bind fun t14113 => ((conf_Wire.f bt14103.1 bt14103.2.1 bt14103.2.2.1 bt14103.2.2.2.1 bt14103.2.2.2.2.1 bt14103.2.2.2.2.2 (wrap64 (t14112 + 1))).bind fun t14114 => (if t14113 ≥ 0 then (if t14113 ≤ 65535 then (if t14114 = (wrap64 (t14113 + 1)) then ((conf_Wire.f bt14103.1 bt14103.2.1 bt14103.2.2.1 bt14103.2.2.2.1 bt14103.2.2.2.2.1 bt14103.2.2.2.2.2 (wrap64 (t14112 + 65536))).bind fun t14115 => (if t14115 = t14113 then ((conf_Wire.f bt14103.1 bt14103.2.1 bt14103.2.2.1 bt14103.2.2.2.1 bt14103.2.2.2.2.1 bt14103.2.2.2.2.2 0).bind fun t14116 => (some (t14116 == bt14103.2.2.2.2.1))) else (some false))) else (if t14113 = 65535 then (if t14114 = 0 then ((conf_Wire.f bt14103.1 bt14103.2.1 bt14103.2.2.1 bt14103.2.2.2.1 bt14103.2.2.2.2.1 bt14103.2.2.2.2.2 (wrap64 (t14112 + 65536))).bind fun t14117 => (if t14117 = t14113 then ((conf_Wire.f bt14103.1 bt14103.2.1 bt14103.2.2.1 bt14103.2.2.2.1 bt14103.2.2.2.2.1 bt14103.2.2.2.2.2 0).bind fun t14118 => (some (t14118 == bt14103.2.2.2.2.1))) else (some false))) else (some false)) else (some false))) else (some false)) else (some false)))))) else (some false)) = some r := H
  have A3 := Aside0.mk A30
  clear A30
  by_cases c4 : t14102 = true
  · subst c4
    have H1 : ((plaitinglaw3_Make.f k a0_0 a0_1 a0_2 a0_3 a0_4 l0_5).bind fun bt14103 => ((plaitinglaw3_within.f a1 200000).bind fun t14112 => ((conf_Wire.f bt14103.1 bt14103.2.1 bt14103.2.2.1 bt14103.2.2.2.1 bt14103.2.2.2.2.1 bt14103.2.2.2.2.2 t14112).bind fun t14113 => ((conf_Wire.f bt14103.1 bt14103.2.1 bt14103.2.2.1 bt14103.2.2.2.1 bt14103.2.2.2.2.1 bt14103.2.2.2.2.2 (wrap64 (t14112 + 1))).bind fun t14114 => (if t14113 ≥ 0 then (if t14113 ≤ 65535 then (if t14114 = (wrap64 (t14113 + 1)) then ((conf_Wire.f bt14103.1 bt14103.2.1 bt14103.2.2.1 bt14103.2.2.2.1 bt14103.2.2.2.2.1 bt14103.2.2.2.2.2 (wrap64 (t14112 + 65536))).bind fun t14115 => (if t14115 = t14113 then ((conf_Wire.f bt14103.1 bt14103.2.1 bt14103.2.2.1 bt14103.2.2.2.1 bt14103.2.2.2.2.1 bt14103.2.2.2.2.2 0).bind fun t14116 => (some (t14116 == bt14103.2.2.2.2.1))) else (some false))) else (if t14113 = 65535 then (if t14114 = 0 then ((conf_Wire.f bt14103.1 bt14103.2.1 bt14103.2.2.1 bt14103.2.2.2.1 bt14103.2.2.2.2.1 bt14103.2.2.2.2.2 (wrap64 (t14112 + 65536))).bind fun t14117 => (if t14117 = t14113 then ((conf_Wire.f bt14103.1 bt14103.2.1 bt14103.2.2.1 bt14103.2.2.2.1 bt14103.2.2.2.2.1 bt14103.2.2.2.2.2 0).bind fun t14118 => (some (t14118 == bt14103.2.2.2.2.1))) else (some false))) else (some false)) else (some false))) else (some false)) else (some false)))))) = some r := by rw [if_pos rfl] at H; exact H
    clear H
    have H := H1
    clear H1
    replace H := Option.bind_eq_some_iff.mp H
    obtain ⟨⟨t14103, t14104, t14105, t14106, t14107, t14108⟩, A50, H⟩ := H
    replace H : ((plaitinglaw3_within.f a1 200000).bind fun t14112 => ((conf_Wire.f t14103 t14104 t14105 t14106 t14107 t14108 t14112).bind fun t14113 => ((conf_Wire.f t14103 t14104 t14105 t14106 t14107 t14108 (wrap64 (t14112 + 1))).bind fun t14114 => (if t14113 ≥ 0 then (if t14113 ≤ 65535 then (if t14114 = (wrap64 (t14113 + 1)) then ((conf_Wire.f t14103 t14104 t14105 t14106 t14107 t14108 (wrap64 (t14112 + 65536))).bind fun t14115 => (if t14115 = t14113 then ((conf_Wire.f t14103 t14104 t14105 t14106 t14107 t14108 0).bind fun t14116 => (some (t14116 == t14107))) else (some false))) else (if t14113 = 65535 then (if t14114 = 0 then ((conf_Wire.f t14103 t14104 t14105 t14106 t14107 t14108 (wrap64 (t14112 + 65536))).bind fun t14117 => (if t14117 = t14113 then ((conf_Wire.f t14103 t14104 t14105 t14106 t14107 t14108 0).bind fun t14118 => (some (t14118 == t14107))) else (some false))) else (some false)) else (some false))) else (some false)) else (some false))))) = some r := H
    have A5 := Aside0.mk A50
    clear A50
    replace H := Option.bind_eq_some_iff.mp H
    obtain ⟨t14112, A60, H⟩ := H
    replace H : ((conf_Wire.f t14103 t14104 t14105 t14106 t14107 t14108 t14112).bind fun t14113 => ((conf_Wire.f t14103 t14104 t14105 t14106 t14107 t14108 (wrap64 (t14112 + 1))).bind fun t14114 => (if t14113 ≥ 0 then (if t14113 ≤ 65535 then (if t14114 = (wrap64 (t14113 + 1)) then ((conf_Wire.f t14103 t14104 t14105 t14106 t14107 t14108 (wrap64 (t14112 + 65536))).bind fun t14115 => (if t14115 = t14113 then ((conf_Wire.f t14103 t14104 t14105 t14106 t14107 t14108 0).bind fun t14116 => (some (t14116 == t14107))) else (some false))) else (if t14113 = 65535 then (if t14114 = 0 then ((conf_Wire.f t14103 t14104 t14105 t14106 t14107 t14108 (wrap64 (t14112 + 65536))).bind fun t14117 => (if t14117 = t14113 then ((conf_Wire.f t14103 t14104 t14105 t14106 t14107 t14108 0).bind fun t14118 => (some (t14118 == t14107))) else (some false))) else (some false)) else (some false))) else (some false)) else (some false)))) = some r := H
    have A6 := Aside0.mk A60
    clear A60
    replace H := Option.bind_eq_some_iff.mp H
    obtain ⟨t14113, A70, H⟩ := H
    replace H : ((conf_Wire.f t14103 t14104 t14105 t14106 t14107 t14108 (wrap64 (t14112 + 1))).bind fun t14114 => (if t14113 ≥ 0 then (if t14113 ≤ 65535 then (if t14114 = (wrap64 (t14113 + 1)) then ((conf_Wire.f t14103 t14104 t14105 t14106 t14107 t14108 (wrap64 (t14112 + 65536))).bind fun t14115 => (if t14115 = t14113 then ((conf_Wire.f t14103 t14104 t14105 t14106 t14107 t14108 0).bind fun t14116 => (some (t14116 == t14107))) else (some false))) else (if t14113 = 65535 then (if t14114 = 0 then ((conf_Wire.f t14103 t14104 t14105 t14106 t14107 t14108 (wrap64 (t14112 + 65536))).bind fun t14117 => (if t14117 = t14113 then ((conf_Wire.f t14103 t14104 t14105 t14106 t14107 t14108 0).bind fun t14118 => (some (t14118 == t14107))) else (some false))) else (some false)) else (some false))) else (some false)) else (some false))) = some r := H
    have A7 := Aside0.mk A70
    clear A70
    replace H := Option.bind_eq_some_iff.mp H
    obtain ⟨t14114, A80, H⟩ := H
    replace H : (if t14113 ≥ 0 then (if t14113 ≤ 65535 then (if t14114 = (wrap64 (t14113 + 1)) then ((conf_Wire.f t14103 t14104 t14105 t14106 t14107 t14108 (wrap64 (t14112 + 65536))).bind fun t14115 => (if t14115 = t14113 then ((conf_Wire.f t14103 t14104 t14105 t14106 t14107 t14108 0).bind fun t14116 => (some (t14116 == t14107))) else (some false))) else (if t14113 = 65535 then (if t14114 = 0 then ((conf_Wire.f t14103 t14104 t14105 t14106 t14107 t14108 (wrap64 (t14112 + 65536))).bind fun t14117 => (if t14117 = t14113 then ((conf_Wire.f t14103 t14104 t14105 t14106 t14107 t14108 0).bind fun t14118 => (some (t14118 == t14107))) else (some false))) else (some false)) else (some false))) else (some false)) else (some false)) = some r := H
    have A8 := Aside0.mk A80
    clear A80
    by_cases c9 : t14113 ≥ 0
    · rw [if_pos c9] at H
      have c9b0 : decide (0 ≤ t14113) = true := decide_eq_true c9
      clear c9
      by_cases c10 : t14113 ≤ 65535
      · rw [if_pos c10] at H
        have c10b0 : decide (t14113 ≤ 65535) = true := decide_eq_true c10
        clear c10
        by_cases c11 : t14114 = (wrap64 (t14113 + 1))
        · rw [if_pos c11] at H
          have c11b0 : (t14114 == (wrap64 (t14113 + 1))) = true := beq_iff_eq.mpr c11
          have c11b1 : (t14114 != (wrap64 (t14113 + 1))) = false := bne_eq_false_iff_eq.mpr c11
          clear c11
          replace H := Option.bind_eq_some_iff.mp H
          obtain ⟨t14115, A120, H⟩ := H
          replace H : (if t14115 = t14113 then ((conf_Wire.f t14103 t14104 t14105 t14106 t14107 t14108 0).bind fun t14116 => (some (t14116 == t14107))) else (some false)) = some r := H
          have A12 := Aside0.mk A120
          clear A120
          by_cases c13 : t14115 = t14113
          · rw [if_pos c13] at H
            have c13b0 : (t14115 == t14113) = true := beq_iff_eq.mpr c13
            have c13b1 : (t14115 != t14113) = false := bne_eq_false_iff_eq.mpr c13
            clear c13
            replace H := Option.bind_eq_some_iff.mp H
            obtain ⟨t14116, A140, H⟩ := H
            replace H : (some (t14116 == t14107)) = some r := H
            have A14 := Aside0.mk A140
            clear A140
            obtain rfl := Option.some.inj H
            go_enter Try.func7, Try.ntmps7
            try go_wp2_with (first | ((with_reducible refine gate_dst (N := 2) rfl ?_); refine box_event ?hg (N := 2) ?hd (cs := #[.int .i64 a0_0, .int .i64 a0_1, .int .i64 a0_2, .int .i64 a0_3, .int .i64 a0_4, .slice A0_5 l0_5.length c0_5]) (t := 35) ?hr ?_; (case hd => rfl); (case hg => rfl); (case hr => first | (go_simp; done) | (go_simp; rfl)); intro gb14101 hg w15 hbox hb; have n0_ := Aside0.mk (below_step (by repeat (first | (with_reducible first | exact HB.out | apply below_alloc | apply pw_below_drewN | apply below_drew1) | exact HB.out)) hb); have n1_ := Aside0.mk (hbox); have n2_ := Aside0.mk ((by rw [hg]; exact (below_size (by repeat (first | (with_reducible first | exact HB.out | apply below_alloc | apply pw_below_drewN | apply below_drew1) | exact HB.out))) : w.heap.size ≤ gb14101)); have n3_ := Aside0.mk ((by rw [hg]; exact (below_size (by repeat (first | (with_reducible first | exact HB.out | apply below_alloc | apply pw_below_drewN | apply below_drew1) | exact HB.out))) : w.heap.size ≤ gb14101)); clear HB; have HB := n0_; have BK14101 := n1_; have GW14101 := n2_; have GE14101 := n3_; clear n0_ n1_ n2_ n3_; clear hb hbox hg) | ((with_reducible refine gate_callee (f := 25) rfl ?_); refine goesL_ (some 9) rfl rfl Try.func25 (by kernel_rfl) rfl #[] rfl (by (try simp only [List.map_toArray, List.map_cons, List.map_nil]); first | done | rfl | (simp only [List.length_drop, List.length_take]; rfl)) ?_; (with_reducible refine (plaitinglaw3_known.calls  true _ A3.out).mono ?_); rintro e w16 ⟨rfl, hb⟩; refine ⟨_, rfl, ?_⟩; have n0_ := Aside0.mk (blk_below (g := gb14101) (o := .cells #[.int .i64 a0_0, .int .i64 a0_1, .int .i64 a0_2, .int .i64 a0_3, .int .i64 a0_4, .slice A0_5 l0_5.length c0_5] 35 (0, 0)) (by (with_reducible repeat (first | refine blk_drewN ?_ _ | refine blk_drew ?_ | refine blk_alloc ?_ _)); exact BK14101.out) hb); have n1_ := Aside0.mk (below_step (by repeat (first | (with_reducible first | exact HB.out | apply below_alloc | apply pw_below_drewN | apply below_drew1 | refine below_set ?_ GE14101.out) | exact HB.out)) hb); clear BK14101; clear HB; have BK14101 := n0_; have HB := n1_; clear n0_ n1_; (try clear hb); (try clear hb2); (try clear hk); (try clear hi); have hcz17_0 : w16.cell? ⟨gb14101, 0, none⟩ = some (.int .i64 a0_0) := (blk_cell BK14101.out 0).trans rfl; have hcz17_1 : w16.cell? ⟨gb14101, 1, none⟩ = some (.int .i64 a0_1) := (blk_cell BK14101.out 1).trans rfl; have hcz17_2 : w16.cell? ⟨gb14101, 2, none⟩ = some (.int .i64 a0_2) := (blk_cell BK14101.out 2).trans rfl; have hcz17_3 : w16.cell? ⟨gb14101, 3, none⟩ = some (.int .i64 a0_3) := (blk_cell BK14101.out 3).trans rfl; have hcz17_4 : w16.cell? ⟨gb14101, 4, none⟩ = some (.int .i64 a0_4) := (blk_cell BK14101.out 4).trans rfl; have hcz17_5 : w16.cell? ⟨gb14101, 5, none⟩ = some (.slice A0_5 l0_5.length c0_5) := (blk_cell BK14101.out 5).trans rfl; have hfz17_0 := blk_frozen BK14101.out 0; have hfz17_1 := blk_frozen BK14101.out 1; have hfz17_2 := blk_frozen BK14101.out 2; have hfz17_3 := blk_frozen BK14101.out 3; have hfz17_4 := blk_frozen BK14101.out 4; have hfz17_5 := blk_frozen BK14101.out 5) | ((with_reducible refine gate_callee (f := 26) rfl ?_); refine goesL_ (some 12) rfl rfl Try.func26 (by kernel_rfl) rfl #[.agg #[.int .i64 a0_0, .int .i64 a0_1, .int .i64 a0_2, .int .i64 a0_3, .int .i64 a0_4, .slice A0_5 l0_5.length c0_5]] rfl (by (try simp only [List.map_toArray, List.map_cons, List.map_nil]); first | done | rfl | (simp only [List.length_drop, List.length_take]; rfl)) ?_; (with_reducible refine (plaitinglaw3_Make.calls k a0_0 a0_1 a0_2 a0_3 a0_4 _ _ l0_5 t14103 t14104 t14105 t14106 t14107 t14108 _ ?side1 ?side2 A5.out).mono ?_); (case side1 => repeat (first | exact (Kd.C_below HR0_5.out HB.out) | (with_reducible refine Kd.C_alloc ?_ _) | (with_reducible refine Kd.C_drewN ?_ _) | (with_reducible refine Kd.C_drew ?_))); (case side2 => exact HC0_5.out); rintro e w18 ⟨v14109, rfl, ho0, hb⟩; refine ⟨_, rfl, ?_⟩; have n0_ := Aside0.mk (Kd.R_lower ho0 (below_size (by repeat (first | (with_reducible first | exact HB.out | apply below_alloc | apply pw_below_drewN | apply below_drew1 | refine below_set ?_ GE14101.out) | exact HB.out)))); have n1_ := Aside0.mk (blk_below (g := gb14101) (o := .cells #[.int .i64 a0_0, .int .i64 a0_1, .int .i64 a0_2, .int .i64 a0_3, .int .i64 a0_4, .slice A0_5 l0_5.length c0_5] 35 (0, 0)) (by (with_reducible repeat (first | refine blk_drewN ?_ _ | refine blk_drew ?_ | refine blk_alloc ?_ _)); exact BK14101.out) hb); have n2_ := Aside0.mk (below_step (by repeat (first | (with_reducible first | exact HB.out | apply below_alloc | apply pw_below_drewN | apply below_drew1 | refine below_set ?_ GE14101.out) | exact HB.out)) hb); clear BK14101; clear HB; have HO14110 := n0_; have BK14101 := n1_; have HB := n2_; clear n0_ n1_ n2_; (try clear hb); (try clear hb2); (try clear hk); (try clear hi); (try clear ho0)) | ((with_reducible refine gate_dst (N := 5) rfl ?_); refine box_event ?hg (N := 5) ?hd (cs := #[.int .i64 0, .int .i64 0, .int .i64 0, .int .i64 0, .int .i64 0, .slice none 0 0]) (t := 35) ?hr ?_; (case hd => rfl); (case hg => rfl); (case hr => first | (go_simp; done) | (go_simp; rfl)); intro gb14111 hg w19 hbox hb; have n0_ := Aside0.mk (Kd.R_below (by (with_reducible repeat (first | apply Kd.R_alloc | apply Kd.R_drewN | apply Kd.R_drew)); exact HO14110.out) hb); have n1_ := Aside0.mk (blk_below (g := gb14101) (o := .cells #[.int .i64 a0_0, .int .i64 a0_1, .int .i64 a0_2, .int .i64 a0_3, .int .i64 a0_4, .slice A0_5 l0_5.length c0_5] 35 (0, 0)) (by (with_reducible repeat (first | refine blk_drewN ?_ _ | refine blk_drew ?_ | refine blk_alloc ?_ _)); exact BK14101.out) hb); have n2_ := Aside0.mk (below_step (by repeat (first | (with_reducible first | exact HB.out | apply below_alloc | apply pw_below_drewN | apply below_drew1 | refine below_set ?_ GE14101.out) | exact HB.out)) hb); have n3_ := Aside0.mk (hbox); have n4_ := Aside0.mk ((by rw [hg]; exact (below_size (by repeat (first | (with_reducible first | exact HB.out | apply below_alloc | apply pw_below_drewN | apply below_drew1 | refine below_set ?_ GE14101.out) | exact HB.out))) : w.heap.size ≤ gb14111)); have n5_ := Aside0.mk ((by rw [hg]; exact (below_size (by repeat (first | (with_reducible first | exact HB.out | apply below_alloc | apply pw_below_drewN | apply below_drew1 | refine below_set ?_ GE14101.out) | exact HB.out))) : w.heap.size ≤ gb14111)); have n6_ := Aside0.mk ((by rw [hg]; exact Nat.ne_of_lt (blk_lt (g := gb14101) (o := .cells #[.int .i64 a0_0, .int .i64 a0_1, .int .i64 a0_2, .int .i64 a0_3, .int .i64 a0_4, .slice A0_5 l0_5.length c0_5] 35 (0, 0)) (by (with_reducible repeat (first | refine blk_drewN ?_ _ | refine blk_drew ?_ | refine blk_alloc ?_ _)); exact BK14101.out)) : gb14101 ≠ gb14111)); have n7_ := Aside0.mk ((by rw [hg]; exact Nat.ne_of_gt (blk_lt (g := gb14101) (o := .cells #[.int .i64 a0_0, .int .i64 a0_1, .int .i64 a0_2, .int .i64 a0_3, .int .i64 a0_4, .slice A0_5 l0_5.length c0_5] 35 (0, 0)) (by (with_reducible repeat (first | refine blk_drewN ?_ _ | refine blk_drew ?_ | refine blk_alloc ?_ _)); exact BK14101.out)) : gb14111 ≠ gb14101)); clear HO14110; clear BK14101; clear HB; have HO14110 := n0_; have BK14101 := n1_; have HB := n2_; have BK14111 := n3_; have GW14111 := n4_; have GE14111 := n5_; have NB14101_14111 := n6_; have NB14111_14101 := n7_; clear n0_ n1_ n2_ n3_ n4_ n5_ n6_ n7_; clear hb hbox hg; have hnb20 := NB14111_14101.out; have hnc20 := NB14101_14111.out; have hcz21_0 : w19.cell? ⟨gb14111, 0, none⟩ = some (.int .i64 0) := (blk_cell BK14111.out 0).trans rfl; have hcz21_1 : w19.cell? ⟨gb14111, 1, none⟩ = some (.int .i64 0) := (blk_cell BK14111.out 1).trans rfl; have hcz21_2 : w19.cell? ⟨gb14111, 2, none⟩ = some (.int .i64 0) := (blk_cell BK14111.out 2).trans rfl; have hcz21_3 : w19.cell? ⟨gb14111, 3, none⟩ = some (.int .i64 0) := (blk_cell BK14111.out 3).trans rfl; have hcz21_4 : w19.cell? ⟨gb14111, 4, none⟩ = some (.int .i64 0) := (blk_cell BK14111.out 4).trans rfl; have hcz21_5 : w19.cell? ⟨gb14111, 5, none⟩ = some (.slice none 0 0) := (blk_cell BK14111.out 5).trans rfl; have hfz21_0 := blk_frozen BK14111.out 0; have hfz21_1 := blk_frozen BK14111.out 1; have hfz21_2 := blk_frozen BK14111.out 2; have hfz21_3 := blk_frozen BK14111.out 3; have hfz21_4 := blk_frozen BK14111.out 4; have hfz21_5 := blk_frozen BK14111.out 5; obtain ⟨Ao22, co22, eo22⟩ := Kd.R_slice HO14110.out; subst eo22) | ((with_reducible refine gate_callee (f := 29) rfl ?_); refine goesL_ (some 14) rfl rfl Try.func29 (by kernel_rfl) rfl #[.int .i64 a1, .int .i64 200000] rfl (by (try simp only [List.map_toArray, List.map_cons, List.map_nil]); first | done | rfl | (simp only [List.length_drop, List.length_take]; rfl)) ?_; (with_reducible refine (plaitinglaw3_within.calls a1 200000 t14112 _ A6.out).mono ?_); rintro e w' ⟨rfl, ⟨nd, rfl⟩⟩; refine ⟨_, rfl, ?_⟩))
            have n0_ : Aside0 (Kd.R (Kd.int .i64) 3 ((((((w19.setCell ⟨gb14111, 0, none⟩ (.int .i64 t14103)).setCell ⟨gb14111, 1, none⟩ (.int .i64 t14104)).setCell ⟨gb14111, 2, none⟩ (.int .i64 t14105)).setCell ⟨gb14111, 3, none⟩ (.int .i64 t14106)).setCell ⟨gb14111, 4, none⟩ (.int .i64 t14107)).setCell ⟨gb14111, 5, none⟩ (.slice Ao22 t14108.length co22)) w.heap.size (fun _ => True) (.slice Ao22 t14108.length co22) t14108) := ⟨by (with_reducible repeat (first | apply Kd.R_alloc | apply Kd.R_drewN | apply Kd.R_drew)); exact Kd.R_mono (Kd.R_far (p := ⟨gb14111, 5, none⟩) (Kd.R_far (p := ⟨gb14111, 4, none⟩) (Kd.R_far (p := ⟨gb14111, 3, none⟩) (Kd.R_far (p := ⟨gb14111, 2, none⟩) (Kd.R_far (p := ⟨gb14111, 1, none⟩) (Kd.R_far (p := ⟨gb14111, 0, none⟩) (Kd.R_types HO14110.out BK14111.out (by decide)) (fun _ hk => hk.2) (.int .i64 t14103)) (fun _ hk => hk.2) (.int .i64 t14104)) (fun _ hk => hk.2) (.int .i64 t14105)) (fun _ hk => hk.2) (.int .i64 t14106)) (fun _ hk => hk.2) (.int .i64 t14107)) (fun _ hk => hk.2) (.slice Ao22 t14108.length co22)) (fun _ hk => trivial)⟩
            have n1_ : Aside0 (((((((w19.setCell ⟨gb14111, 0, none⟩ (.int .i64 t14103)).setCell ⟨gb14111, 1, none⟩ (.int .i64 t14104)).setCell ⟨gb14111, 2, none⟩ (.int .i64 t14105)).setCell ⟨gb14111, 3, none⟩ (.int .i64 t14106)).setCell ⟨gb14111, 4, none⟩ (.int .i64 t14107)).setCell ⟨gb14111, 5, none⟩ (.slice Ao22 t14108.length co22)).heap[gb14101]? = some (.cells #[.int .i64 a0_0, .int .i64 a0_1, .int .i64 a0_2, .int .i64 a0_3, .int .i64 a0_4, .slice A0_5 l0_5.length c0_5] 35 (0, 0))) := ⟨by (with_reducible repeat (first | refine blk_drewN ?_ _ | refine blk_drew ?_ | refine blk_alloc ?_ _)); refine blk_far ?_ NB14101_14111.out _; (with_reducible repeat (first | refine blk_drewN ?_ _ | refine blk_drew ?_ | refine blk_alloc ?_ _)); refine blk_far ?_ NB14101_14111.out _; (with_reducible repeat (first | refine blk_drewN ?_ _ | refine blk_drew ?_ | refine blk_alloc ?_ _)); refine blk_far ?_ NB14101_14111.out _; (with_reducible repeat (first | refine blk_drewN ?_ _ | refine blk_drew ?_ | refine blk_alloc ?_ _)); refine blk_far ?_ NB14101_14111.out _; (with_reducible repeat (first | refine blk_drewN ?_ _ | refine blk_drew ?_ | refine blk_alloc ?_ _)); refine blk_far ?_ NB14101_14111.out _; (with_reducible repeat (first | refine blk_drewN ?_ _ | refine blk_drew ?_ | refine blk_alloc ?_ _)); refine blk_far ?_ NB14101_14111.out _; (with_reducible repeat (first | refine blk_drewN ?_ _ | refine blk_drew ?_ | refine blk_alloc ?_ _)); exact BK14101.out⟩
            have n2_ : Aside0 (((((((w19.setCell ⟨gb14111, 0, none⟩ (.int .i64 t14103)).setCell ⟨gb14111, 1, none⟩ (.int .i64 t14104)).setCell ⟨gb14111, 2, none⟩ (.int .i64 t14105)).setCell ⟨gb14111, 3, none⟩ (.int .i64 t14106)).setCell ⟨gb14111, 4, none⟩ (.int .i64 t14107)).setCell ⟨gb14111, 5, none⟩ (.slice Ao22 t14108.length co22)).heap[gb14111]? = some (.cells #[.int .i64 t14103, .int .i64 t14104, .int .i64 t14105, .int .i64 t14106, .int .i64 t14107, .slice Ao22 t14108.length co22] 35 (0, 0))) := ⟨by (with_reducible repeat (first | refine blk_drewN ?_ _ | refine blk_drew ?_ | refine blk_alloc ?_ _)); refine blk_put (cs := #[.int .i64 t14103, .int .i64 t14104, .int .i64 t14105, .int .i64 t14106, .int .i64 t14107, .slice none 0 0]) ?_ 5 _ rfl; (with_reducible repeat (first | refine blk_drewN ?_ _ | refine blk_drew ?_ | refine blk_alloc ?_ _)); refine blk_put (cs := #[.int .i64 t14103, .int .i64 t14104, .int .i64 t14105, .int .i64 t14106, .int .i64 0, .slice none 0 0]) ?_ 4 _ rfl; (with_reducible repeat (first | refine blk_drewN ?_ _ | refine blk_drew ?_ | refine blk_alloc ?_ _)); refine blk_put (cs := #[.int .i64 t14103, .int .i64 t14104, .int .i64 t14105, .int .i64 0, .int .i64 0, .slice none 0 0]) ?_ 3 _ rfl; (with_reducible repeat (first | refine blk_drewN ?_ _ | refine blk_drew ?_ | refine blk_alloc ?_ _)); refine blk_put (cs := #[.int .i64 t14103, .int .i64 t14104, .int .i64 0, .int .i64 0, .int .i64 0, .slice none 0 0]) ?_ 2 _ rfl; (with_reducible repeat (first | refine blk_drewN ?_ _ | refine blk_drew ?_ | refine blk_alloc ?_ _)); refine blk_put (cs := #[.int .i64 t14103, .int .i64 0, .int .i64 0, .int .i64 0, .int .i64 0, .slice none 0 0]) ?_ 1 _ rfl; (with_reducible repeat (first | refine blk_drewN ?_ _ | refine blk_drew ?_ | refine blk_alloc ?_ _)); refine blk_put (cs := #[.int .i64 0, .int .i64 0, .int .i64 0, .int .i64 0, .int .i64 0, .slice none 0 0]) ?_ 0 _ rfl; (with_reducible repeat (first | refine blk_drewN ?_ _ | refine blk_drew ?_ | refine blk_alloc ?_ _)); exact BK14111.out⟩
            have n3_ : Aside0 (Below w.heap.size w ((((((w19.setCell ⟨gb14111, 0, none⟩ (.int .i64 t14103)).setCell ⟨gb14111, 1, none⟩ (.int .i64 t14104)).setCell ⟨gb14111, 2, none⟩ (.int .i64 t14105)).setCell ⟨gb14111, 3, none⟩ (.int .i64 t14106)).setCell ⟨gb14111, 4, none⟩ (.int .i64 t14107)).setCell ⟨gb14111, 5, none⟩ (.slice Ao22 t14108.length co22))) := ⟨by repeat (first | (with_reducible first | exact HB.out | apply below_alloc | apply pw_below_drewN | apply below_drew1 | refine below_set ?_ GE14101.out | refine below_set ?_ GE14111.out) | exact HB.out)⟩
            (try clear HO14110)
            (try clear BK14101)
            (try clear BK14111)
            (try clear HB)
            generalize ((((((w19.setCell ⟨gb14111, 0, none⟩ (.int .i64 t14103)).setCell ⟨gb14111, 1, none⟩ (.int .i64 t14104)).setCell ⟨gb14111, 2, none⟩ (.int .i64 t14105)).setCell ⟨gb14111, 3, none⟩ (.int .i64 t14106)).setCell ⟨gb14111, 4, none⟩ (.int .i64 t14107)).setCell ⟨gb14111, 5, none⟩ (.slice Ao22 t14108.length co22)) = w23 at n0_ n1_ n2_ n3_ ⊢
            have HO14110 := n0_
            have BK14101 := n1_
            have BK14111 := n2_
            have HB := n3_
            clear n0_ n1_ n2_ n3_
            (try (rw [drewN_self w23]; generalize hq_ : World.drewN w23 _ = w23; have n0_ : Aside0 (Kd.R (Kd.int .i64) 3 w23 w.heap.size (fun _ => True) (.slice Ao22 t14108.length co22) t14108) := ⟨by rw [← hq_]; exact (by (with_reducible repeat (first | apply Kd.R_alloc | apply Kd.R_drewN | apply Kd.R_drew)); exact HO14110.out)⟩; have n1_ : Aside0 (w23.heap[gb14101]? = some (.cells #[.int .i64 a0_0, .int .i64 a0_1, .int .i64 a0_2, .int .i64 a0_3, .int .i64 a0_4, .slice A0_5 l0_5.length c0_5] 35 (0, 0))) := ⟨by rw [← hq_]; exact (by (with_reducible repeat (first | refine blk_drewN ?_ _ | refine blk_drew ?_ | refine blk_alloc ?_ _)); exact BK14101.out)⟩; have n2_ : Aside0 (w23.heap[gb14111]? = some (.cells #[.int .i64 t14103, .int .i64 t14104, .int .i64 t14105, .int .i64 t14106, .int .i64 t14107, .slice Ao22 t14108.length co22] 35 (0, 0))) := ⟨by rw [← hq_]; exact (by (with_reducible repeat (first | refine blk_drewN ?_ _ | refine blk_drew ?_ | refine blk_alloc ?_ _)); exact BK14111.out)⟩; have n3_ : Aside0 (Below w.heap.size w w23) := ⟨by rw [← hq_]; exact (by repeat (first | (with_reducible first | exact HB.out | apply below_alloc | apply pw_below_drewN | apply below_drew1 | refine below_set ?_ GE14101.out | refine below_set ?_ GE14111.out) | exact HB.out))⟩; clear HO14110 BK14101 BK14111 HB hq_; have HO14110 := n0_; have BK14101 := n1_; have BK14111 := n2_; have HB := n3_; clear n0_ n1_ n2_ n3_))
            have n0_ := Aside0.mk (Kd.R_drew HO14110.out)
            have n1_ := Aside0.mk (blk_drew BK14101.out)
            have n2_ := Aside0.mk (blk_drew BK14111.out)
            have n3_ := Aside0.mk (below_drew1 HB.out)
            clear HO14110
            clear BK14101
            clear BK14111
            clear HB
            have HO14110 := n0_
            have BK14101 := n1_
            have BK14111 := n2_
            have HB := n3_
            clear n0_ n1_ n2_ n3_
            refine start_ (n := 9) (S := fun w' => w'.cell? ⟨gb14111, 0, none⟩ = some (.int .i64 t14103) ∧ w'.cell? ⟨gb14111, 1, none⟩ = some (.int .i64 t14104) ∧ w'.cell? ⟨gb14111, 2, none⟩ = some (.int .i64 t14105) ∧ w'.cell? ⟨gb14111, 3, none⟩ = some (.int .i64 t14106) ∧ w'.cell? ⟨gb14111, 4, none⟩ = some (.int .i64 t14107) ∧ w'.cell? ⟨gb14111, 5, none⟩ = some (.slice Ao22 t14108.length co22)) (ds := []) #[false, false, false, false, false, false, false, false, false] (by kernel_rfl) rfl rfl ⟨(blk_cell BK14111.out 0).trans rfl, (blk_cell BK14111.out 1).trans rfl, (blk_cell BK14111.out 2).trans rfl, (blk_cell BK14111.out 3).trans rfl, (blk_cell BK14111.out 4).trans rfl, (blk_cell BK14111.out 5).trans rfl⟩ (fun hHeld => ?_); refine with_tabW plaitinglaw3_ConfRounds.tab5 plaitinglaw3_ConfRounds.bits5 (fun HT_ HW_ => ?_)
            generalize w23.drew = w24 at HO14110 BK14101 BK14111 HB hHeld ⊢
            refine pure_ (i := 1) (N := some 16) (v := ?_) (a' := ?_) #[false, true, false, false, false, false, false, false, false] rfl rfl (any_of HT_.out (by kernel_rfl)) (fun _ _ _ h => h) (Or.inl ⟨by rfl, ?_⟩) ?_ ?_
            rotate_left
            · intro w'
              go_simp
              with_reducible rfl
            rotate_left
            · simp only [Act.put, List.setIfInBounds_toArray, List.set_cons_zero, List.set_cons_succ, i64_w, i32_w]
              rfl
            refine pure_ (i := 4) (N := some 19) (v := ?_) (a' := ?_) #[false, true, false, false, true, false, false, false, false] rfl rfl (any_of HT_.out (by kernel_rfl)) (fun _ _ _ h => h) (Or.inl ⟨by rfl, ?_⟩) ?_ ?_
            rotate_left
            · intro w'
              go_simp
              with_reducible rfl
            rotate_left
            · simp only [Act.put, List.setIfInBounds_toArray, List.set_cons_zero, List.set_cons_succ, i64_w, i32_w]
              rfl
            refine pure_ (i := 5) (N := some 20) (v := ?_) (a' := ?_) #[false, true, false, false, true, true, false, false, false] rfl rfl (any_of HT_.out (by kernel_rfl)) (fun _ _ _ h => h) (Or.inl ⟨by rfl, ?_⟩) ?_ ?_
            rotate_left
            · intro w'
              go_simp
              with_reducible rfl
            rotate_left
            · simp only [Act.put, List.setIfInBounds_toArray, List.set_cons_zero, List.set_cons_succ, i64_w, i32_w]
              rfl
            refine take_ (i := 0) (N := some 15) (v := ?_) (a' := ?_) #[true, true, false, false, true, true, false, false, false] rfl rfl (take_ofW HT_.out HW_.out (by kernel_rfl)) (fun _ _ _ h => h) (Or.inl ⟨by rfl, ?_⟩) hHeld ?_ ?_
            rotate_left
            · rintro w' ⟨s0, s1, s2, s3, s4, s5⟩
              go_simp
              with_reducible rfl
            rotate_left
            · simp only [Act.put, List.setIfInBounds_toArray, List.set_cons_zero, List.set_cons_succ, i64_w, i32_w]
              rfl
            refine take_ (i := 3) (N := some 18) (v := ?_) (a' := ?_) #[true, true, false, true, true, true, false, false, false] rfl rfl (take_ofW HT_.out HW_.out (by kernel_rfl)) (fun _ _ _ h => h) (Or.inl ⟨by rfl, ?_⟩) hHeld ?_ ?_
            rotate_left
            · rintro w' ⟨s0, s1, s2, s3, s4, s5⟩
              go_simp
              with_reducible rfl
            rotate_left
            · simp only [Act.put, List.setIfInBounds_toArray, List.set_cons_zero, List.set_cons_succ, i64_w, i32_w]
              rfl
            refine one_ (i := 2) (N := some 17) #[true, true, true, true, true, true, false, false, false] rfl rfl (one_of HT_.out (by kernel_rfl)) (by decide) (fun K hK => ?_)
            refine goes_ Try.func30 (by kernel_rfl) rfl #[.agg #[.int .i64 t14103, .int .i64 t14104, .int .i64 t14105, .int .i64 t14106, .int .i64 t14107, .slice Ao22 t14108.length co22], .int .i64 t14112] (by rfl) rfl rfl (by (try simp only [List.map_toArray, List.map_cons, List.map_nil]); first | done | rfl | (simp only [List.length_drop, List.length_take]; rfl)) ?_
            with_reducible refine (conf_Wire.calls t14103 t14104 t14105 t14106 t14107 _ _ t14108 t14112 t14113 _ ?side1 ?side2 A7.out).mono ?_
            (case side1 => repeat (first | exact (Kd.R_reads' HO14110.out).2.2 | (with_reducible refine Kd.C_alloc ?_ _) | (with_reducible refine Kd.C_drewN ?_ _) | (with_reducible refine Kd.C_drew ?_)))
            (case side2 => exact (Kd.R_reads' HO14110.out).2.1)
            rintro e w25 ⟨rfl, hb⟩
            refine ⟨_, rfl, ?_⟩
            have n0_ := Aside0.mk (Kd.R_below (by (with_reducible repeat (first | apply Kd.R_alloc | apply Kd.R_drewN | apply Kd.R_drew)); exact HO14110.out) hb)
            have n1_ := Aside0.mk (blk_below (g := gb14101) (o := .cells #[.int .i64 a0_0, .int .i64 a0_1, .int .i64 a0_2, .int .i64 a0_3, .int .i64 a0_4, .slice A0_5 l0_5.length c0_5] 35 (0, 0)) (by (with_reducible repeat (first | refine blk_drewN ?_ _ | refine blk_drew ?_ | refine blk_alloc ?_ _)); exact BK14101.out) hb)
            have n2_ := Aside0.mk (blk_below (g := gb14111) (o := .cells #[.int .i64 t14103, .int .i64 t14104, .int .i64 t14105, .int .i64 t14106, .int .i64 t14107, .slice Ao22 t14108.length co22] 35 (0, 0)) (by (with_reducible repeat (first | refine blk_drewN ?_ _ | refine blk_drew ?_ | refine blk_alloc ?_ _)); exact BK14111.out) hb)
            have n3_ := Aside0.mk (below_step (by repeat (first | (with_reducible first | exact HB.out | apply below_alloc | apply pw_below_drewN | apply below_drew1 | refine below_set ?_ GE14101.out | refine below_set ?_ GE14111.out) | exact HB.out)) hb)
            clear HO14110
            clear BK14101
            clear BK14111
            clear HB
            have HO14110 := n0_
            have BK14101 := n1_
            have BK14111 := n2_
            have HB := n3_
            clear n0_ n1_ n2_ n3_
            (try clear hb)
            (try clear hb2)
            (try clear hk)
            (try clear hi)
            refine hK.out _ _ ⟨(blk_cell BK14111.out 0).trans rfl, (blk_cell BK14111.out 1).trans rfl, (blk_cell BK14111.out 2).trans rfl, (blk_cell BK14111.out 3).trans rfl, (blk_cell BK14111.out 4).trans rfl, (blk_cell BK14111.out 5).trans rfl⟩ (fun hHeld => ?_)
            clear hK K
            refine norm_ (a' := ?_) ?_ ?_
            rotate_left
            · show Act.put _ (some 17) _ = _
              simp only [Act.put, List.setIfInBounds_toArray, List.set_cons_zero, List.set_cons_succ, i64_w, i32_w]
              rfl
            refine one_ (i := 6) (N := some 21) #[true, true, true, true, true, true, true, false, false] rfl rfl (one_of HT_.out (by kernel_rfl)) (by decide) (fun K hK => ?_)
            refine goes_ Try.func30 (by kernel_rfl) rfl #[.agg #[.int .i64 t14103, .int .i64 t14104, .int .i64 t14105, .int .i64 t14106, .int .i64 t14107, .slice Ao22 t14108.length co22], .int .i64 (wrap64 (t14112 + 1))] (by rfl) rfl rfl (by (try simp only [List.map_toArray, List.map_cons, List.map_nil]); first | done | rfl | (simp only [List.length_drop, List.length_take]; rfl)) ?_
            with_reducible refine (conf_Wire.calls t14103 t14104 t14105 t14106 t14107 _ _ t14108 (wrap64 (t14112 + 1)) t14114 _ ?side1 ?side2 A8.out).mono ?_
            (case side1 => repeat (first | exact (Kd.R_reads' HO14110.out).2.2 | (with_reducible refine Kd.C_alloc ?_ _) | (with_reducible refine Kd.C_drewN ?_ _) | (with_reducible refine Kd.C_drew ?_)))
            (case side2 => exact (Kd.R_reads' HO14110.out).2.1)
            rintro e w26 ⟨rfl, hb⟩
            refine ⟨_, rfl, ?_⟩
            have n0_ := Aside0.mk (Kd.R_below (by (with_reducible repeat (first | apply Kd.R_alloc | apply Kd.R_drewN | apply Kd.R_drew)); exact HO14110.out) hb)
            have n1_ := Aside0.mk (blk_below (g := gb14101) (o := .cells #[.int .i64 a0_0, .int .i64 a0_1, .int .i64 a0_2, .int .i64 a0_3, .int .i64 a0_4, .slice A0_5 l0_5.length c0_5] 35 (0, 0)) (by (with_reducible repeat (first | refine blk_drewN ?_ _ | refine blk_drew ?_ | refine blk_alloc ?_ _)); exact BK14101.out) hb)
            have n2_ := Aside0.mk (blk_below (g := gb14111) (o := .cells #[.int .i64 t14103, .int .i64 t14104, .int .i64 t14105, .int .i64 t14106, .int .i64 t14107, .slice Ao22 t14108.length co22] 35 (0, 0)) (by (with_reducible repeat (first | refine blk_drewN ?_ _ | refine blk_drew ?_ | refine blk_alloc ?_ _)); exact BK14111.out) hb)
            have n3_ := Aside0.mk (below_step (by repeat (first | (with_reducible first | exact HB.out | apply below_alloc | apply pw_below_drewN | apply below_drew1 | refine below_set ?_ GE14101.out | refine below_set ?_ GE14111.out) | exact HB.out)) hb)
            clear HO14110
            clear BK14101
            clear BK14111
            clear HB
            have HO14110 := n0_
            have BK14101 := n1_
            have BK14111 := n2_
            have HB := n3_
            clear n0_ n1_ n2_ n3_
            (try clear hb)
            (try clear hb2)
            (try clear hk)
            (try clear hi)
            refine hK.out _ _ ⟨(blk_cell BK14111.out 0).trans rfl, (blk_cell BK14111.out 1).trans rfl, (blk_cell BK14111.out 2).trans rfl, (blk_cell BK14111.out 3).trans rfl, (blk_cell BK14111.out 4).trans rfl, (blk_cell BK14111.out 5).trans rfl⟩ (fun hHeld => ?_)
            clear hK K
            refine norm_ (a' := ?_) ?_ ?_
            rotate_left
            · show Act.put _ (some 21) _ = _
              simp only [Act.put, List.setIfInBounds_toArray, List.set_cons_zero, List.set_cons_succ, i64_w, i32_w]
              rfl
            refine pure_ (i := 7) (N := some 7) (v := ?_) (a' := ?_) #[true, true, true, true, true, true, true, true, false] rfl rfl (any_of HT_.out (by kernel_rfl)) (fun _ _ _ h => h) (Or.inl ⟨by rfl, ?_⟩) ?_ ?_
            rotate_left
            · intro w'
              go_simp
              with_reducible rfl
            rotate_left
            · simp only [Act.put, List.setIfInBounds_toArray, List.set_cons_zero, List.set_cons_succ, i64_w, i32_w]
              rfl
            refine pure_ (i := 8) (N := some 8) (v := ?_) (a' := ?_) #[true, true, true, true, true, true, true, true, true] rfl rfl (any_of HT_.out (by kernel_rfl)) (fun _ _ _ h => h) (Or.inl ⟨by rfl, ?_⟩) ?_ ?_
            rotate_left
            · intro w'
              go_simp
              with_reducible rfl
            rotate_left
            · simp only [Act.put, List.setIfInBounds_toArray, List.set_cons_zero, List.set_cons_succ, i64_w, i32_w]
              rfl
            refine done_ (done_of HT_.out (by kernel_rfl)) ?_
            try go_wp2
            have n0_ := Aside0.mk (Kd.R_drew HO14110.out)
            have n1_ := Aside0.mk (blk_drew BK14101.out)
            have n2_ := Aside0.mk (blk_drew BK14111.out)
            have n3_ := Aside0.mk (below_drew1 HB.out)
            clear HO14110
            clear BK14101
            clear BK14111
            clear HB
            have HO14110 := n0_
            have BK14101 := n1_
            have BK14111 := n2_
            have HB := n3_
            clear n0_ n1_ n2_ n3_
            refine start_ (n := 36) (S := fun w' => w'.cell? ⟨gb14111, 0, none⟩ = some (.int .i64 t14103) ∧ w'.cell? ⟨gb14111, 1, none⟩ = some (.int .i64 t14104) ∧ w'.cell? ⟨gb14111, 2, none⟩ = some (.int .i64 t14105) ∧ w'.cell? ⟨gb14111, 3, none⟩ = some (.int .i64 t14106) ∧ w'.cell? ⟨gb14111, 4, none⟩ = some (.int .i64 t14107) ∧ w'.cell? ⟨gb14111, 5, none⟩ = some (.slice Ao22 t14108.length co22)) (ds := []) #[false, false, false, false, false, false, false, false, false, false, false, false, false, false, false, false, false, false, false, false, false, false, false, false, false, false, false, false, false, false, false, false, false, false, false, false] (by kernel_rfl) rfl rfl ⟨(blk_cell BK14111.out 0).trans rfl, (blk_cell BK14111.out 1).trans rfl, (blk_cell BK14111.out 2).trans rfl, (blk_cell BK14111.out 3).trans rfl, (blk_cell BK14111.out 4).trans rfl, (blk_cell BK14111.out 5).trans rfl⟩ (fun hHeld => ?_); refine with_tabW plaitinglaw3_ConfRounds.tab6 plaitinglaw3_ConfRounds.bits6 (fun HT_ HW_ => ?_)
            generalize w26.drew = w27 at HO14110 BK14101 BK14111 HB hHeld ⊢
            refine pure_ (i := 0) (N := some 22) (v := ?_) (a' := ?_) #[true, false, false, false, false, false, false, false, false, false, false, false, false, false, false, false, false, false, false, false, false, false, false, false, false, false, false, false, false, false, false, false, false, false, false, false] rfl rfl (any_of HT_.out (by kernel_rfl)) (fun _ _ _ h => h) (Or.inl ⟨by rfl, ?_⟩) ?_ ?_
            rotate_left
            · intro w'
              go_simp
              with_reducible rfl
            rotate_left
            · simp only [Act.put, List.setIfInBounds_toArray, List.set_cons_zero, List.set_cons_succ, i64_w, i32_w]
              rfl
            refine pure_ (i := 1) (N := some 23) (v := ?_) (a' := ?_) #[true, true, false, false, false, false, false, false, false, false, false, false, false, false, false, false, false, false, false, false, false, false, false, false, false, false, false, false, false, false, false, false, false, false, false, false] rfl rfl (any_of HT_.out (by kernel_rfl)) (fun _ _ _ h => h) (Or.inl ⟨by rfl, ?_⟩) ?_ ?_
            rotate_left
            · intro w'
              go_simp
              with_reducible rfl
            rotate_left
            · simp only [Act.put, List.setIfInBounds_toArray, List.set_cons_zero, List.set_cons_succ, i64_w, i32_w]
              rfl
            refine pure_ (i := 2) (N := some 24) (v := ?_) (a' := ?_) #[true, true, true, false, false, false, false, false, false, false, false, false, false, false, false, false, false, false, false, false, false, false, false, false, false, false, false, false, false, false, false, false, false, false, false, false] rfl rfl (any_of HT_.out (by kernel_rfl)) (fun _ _ _ h => h) (Or.inl ⟨by rfl, ?_⟩) ?_ ?_
            rotate_left
            · intro w'
              go_simp
              with_reducible rfl
            rotate_left
            · simp only [Act.put, List.setIfInBounds_toArray, List.set_cons_zero, List.set_cons_succ, i64_w, i32_w]
              rfl
            refine pure_ (i := 3) (N := some 25) (v := ?_) (a' := ?_) #[true, true, true, true, false, false, false, false, false, false, false, false, false, false, false, false, false, false, false, false, false, false, false, false, false, false, false, false, false, false, false, false, false, false, false, false] rfl rfl (any_of HT_.out (by kernel_rfl)) (fun _ _ _ h => h) (Or.inl ⟨by rfl, ?_⟩) ?_ ?_
            rotate_left
            · intro w'
              go_simp
              with_reducible rfl
            rotate_left
            · simp only [Act.put, List.setIfInBounds_toArray, List.set_cons_zero, List.set_cons_succ, i64_w, i32_w]
              rfl
            refine pure_ (i := 4) (N := some 26) (v := ?_) (a' := ?_) #[true, true, true, true, true, false, false, false, false, false, false, false, false, false, false, false, false, false, false, false, false, false, false, false, false, false, false, false, false, false, false, false, false, false, false, false] rfl rfl (any_of HT_.out (by kernel_rfl)) (fun _ _ _ h => h) (Or.inl ⟨by rfl, ?_⟩) ?_ ?_
            rotate_left
            · intro w'
              go_simp
              with_reducible rfl
            rotate_left
            · simp only [Act.put, List.setIfInBounds_toArray, List.set_cons_zero, List.set_cons_succ, i64_w, i32_w]
              rfl
            refine pure_ (i := 5) (N := some 27) (v := ?_) (a' := ?_) #[true, true, true, true, true, true, false, false, false, false, false, false, false, false, false, false, false, false, false, false, false, false, false, false, false, false, false, false, false, false, false, false, false, false, false, false] rfl rfl (any_of HT_.out (by kernel_rfl)) (fun _ _ _ h => h) (Or.inl ⟨by rfl, ?_⟩) ?_ ?_
            rotate_left
            · intro w'
              go_simp
              with_reducible rfl
            rotate_left
            · simp only [Act.put, List.setIfInBounds_toArray, List.set_cons_zero, List.set_cons_succ, i64_w, i32_w]
              rfl
            refine pure_ (i := 6) (N := some 28) (v := ?_) (a' := ?_) #[true, true, true, true, true, true, true, false, false, false, false, false, false, false, false, false, false, false, false, false, false, false, false, false, false, false, false, false, false, false, false, false, false, false, false, false] rfl rfl (any_of HT_.out (by kernel_rfl)) (fun _ _ _ h => h) (Or.inl ⟨by rfl, ?_⟩) ?_ ?_
            rotate_left
            · intro w'
              go_simp
              with_reducible rfl
            rotate_left
            · simp only [Act.put, List.setIfInBounds_toArray, List.set_cons_zero, List.set_cons_succ, i64_w, i32_w]
              rfl
            refine pure_ (i := 7) (N := some 29) (v := ?_) (a' := ?_) #[true, true, true, true, true, true, true, true, false, false, false, false, false, false, false, false, false, false, false, false, false, false, false, false, false, false, false, false, false, false, false, false, false, false, false, false] rfl rfl (any_of HT_.out (by kernel_rfl)) (fun _ _ _ h => h) (Or.inl ⟨by rfl, ?_⟩) ?_ ?_
            rotate_left
            · intro w'
              go_simp
              with_reducible rfl
            rotate_left
            · simp only [Act.put, List.setIfInBounds_toArray, List.set_cons_zero, List.set_cons_succ, i64_w, i32_w]
              rfl
            refine pure_ (i := 8) (N := some 30) (v := ?_) (a' := ?_) #[true, true, true, true, true, true, true, true, true, false, false, false, false, false, false, false, false, false, false, false, false, false, false, false, false, false, false, false, false, false, false, false, false, false, false, false] rfl rfl (any_of HT_.out (by kernel_rfl)) (fun _ _ _ h => h) (Or.inl ⟨by rfl, ?_⟩) ?_ ?_
            rotate_left
            · intro w'
              go_simp
              with_reducible rfl
            rotate_left
            · simp only [Act.put, List.setIfInBounds_toArray, List.set_cons_zero, List.set_cons_succ, i64_w, i32_w]
              rfl
            refine pure_ (i := 9) (N := some 31) (v := ?_) (a' := ?_) #[true, true, true, true, true, true, true, true, true, true, false, false, false, false, false, false, false, false, false, false, false, false, false, false, false, false, false, false, false, false, false, false, false, false, false, false] rfl rfl (any_of HT_.out (by kernel_rfl)) (fun _ _ _ h => h) (Or.inl ⟨by rfl, ?_⟩) ?_ ?_
            rotate_left
            · intro w'
              go_simp
              with_reducible rfl
            rotate_left
            · simp only [Act.put, List.setIfInBounds_toArray, List.set_cons_zero, List.set_cons_succ, i64_w, i32_w]
              rfl
            refine pure_ (i := 10) (N := some 32) (v := ?_) (a' := ?_) #[true, true, true, true, true, true, true, true, true, true, true, false, false, false, false, false, false, false, false, false, false, false, false, false, false, false, false, false, false, false, false, false, false, false, false, false] rfl rfl (any_of HT_.out (by kernel_rfl)) (fun _ _ _ h => h) (Or.inl ⟨by rfl, ?_⟩) ?_ ?_
            rotate_left
            · intro w'
              go_simp
              with_reducible rfl
            rotate_left
            · simp only [Act.put, List.setIfInBounds_toArray, List.set_cons_zero, List.set_cons_succ, i64_w, i32_w]
              rfl
            refine pure_ (i := 11) (N := some 33) (v := ?_) (a' := ?_) #[true, true, true, true, true, true, true, true, true, true, true, true, false, false, false, false, false, false, false, false, false, false, false, false, false, false, false, false, false, false, false, false, false, false, false, false] rfl rfl (any_of HT_.out (by kernel_rfl)) (fun _ _ _ h => h) (Or.inl ⟨by rfl, ?_⟩) ?_ ?_
            rotate_left
            · intro w'
              go_simp
              with_reducible rfl
            rotate_left
            · simp only [Act.put, List.setIfInBounds_toArray, List.set_cons_zero, List.set_cons_succ, i64_w, i32_w]
              rfl
            refine pure_ (i := 12) (N := some 34) (v := undef) (a' := ?_) #[true, true, true, true, true, true, true, true, true, true, true, true, true, false, false, false, false, false, false, false, false, false, false, false, false, false, false, false, false, false, false, false, false, false, false, false] rfl rfl (any_of HT_.out (by kernel_rfl)) (fun _ _ _ h => h) (Or.inr ⟨by rfl, rfl⟩) ?_ ?_
            rotate_left
            · simp only [Act.put, List.setIfInBounds_toArray, List.set_cons_zero, List.set_cons_succ, i64_w, i32_w]
              rfl
            refine pure_ (i := 13) (N := some 35) (v := undef) (a' := ?_) #[true, true, true, true, true, true, true, true, true, true, true, true, true, true, false, false, false, false, false, false, false, false, false, false, false, false, false, false, false, false, false, false, false, false, false, false] rfl rfl (any_of HT_.out (by kernel_rfl)) (fun _ _ _ h => h) (Or.inr ⟨by rfl, rfl⟩) ?_ ?_
            rotate_left
            · simp only [Act.put, List.setIfInBounds_toArray, List.set_cons_zero, List.set_cons_succ, i64_w, i32_w]
              rfl
            refine pure_ (i := 14) (N := some 36) (v := undef) (a' := ?_) #[true, true, true, true, true, true, true, true, true, true, true, true, true, true, true, false, false, false, false, false, false, false, false, false, false, false, false, false, false, false, false, false, false, false, false, false] rfl rfl (any_of HT_.out (by kernel_rfl)) (fun _ _ _ h => h) (Or.inr ⟨by rfl, rfl⟩) ?_ ?_
            rotate_left
            · simp only [Act.put, List.setIfInBounds_toArray, List.set_cons_zero, List.set_cons_succ, i64_w, i32_w]
              rfl
            refine pure_ (i := 15) (N := some 37) (v := undef) (a' := ?_) #[true, true, true, true, true, true, true, true, true, true, true, true, true, true, true, true, false, false, false, false, false, false, false, false, false, false, false, false, false, false, false, false, false, false, false, false] rfl rfl (any_of HT_.out (by kernel_rfl)) (fun _ _ _ h => h) (Or.inr ⟨by rfl, rfl⟩) ?_ ?_
            rotate_left
            · simp only [Act.put, List.setIfInBounds_toArray, List.set_cons_zero, List.set_cons_succ, i64_w, i32_w]
              rfl
            refine pure_ (i := 16) (N := some 38) (v := undef) (a' := ?_) #[true, true, true, true, true, true, true, true, true, true, true, true, true, true, true, true, true, false, false, false, false, false, false, false, false, false, false, false, false, false, false, false, false, false, false, false] rfl rfl (any_of HT_.out (by kernel_rfl)) (fun _ _ _ h => h) (Or.inr ⟨by rfl, rfl⟩) ?_ ?_
            rotate_left
            · simp only [Act.put, List.setIfInBounds_toArray, List.set_cons_zero, List.set_cons_succ, i64_w, i32_w]
              rfl
            refine pure_ (i := 17) (N := some 39) (v := undef) (a' := ?_) #[true, true, true, true, true, true, true, true, true, true, true, true, true, true, true, true, true, true, false, false, false, false, false, false, false, false, false, false, false, false, false, false, false, false, false, false] rfl rfl (any_of HT_.out (by kernel_rfl)) (fun _ _ _ h => h) (Or.inr ⟨by rfl, rfl⟩) ?_ ?_
            rotate_left
            · simp only [Act.put, List.setIfInBounds_toArray, List.set_cons_zero, List.set_cons_succ, i64_w, i32_w]
              rfl
            refine pure_ (i := 18) (N := some 40) (v := ?_) (a' := ?_) #[true, true, true, true, true, true, true, true, true, true, true, true, true, true, true, true, true, true, true, false, false, false, false, false, false, false, false, false, false, false, false, false, false, false, false, false] rfl rfl (any_of HT_.out (by kernel_rfl)) (fun _ _ _ h => h) (Or.inl ⟨by rfl, ?_⟩) ?_ ?_
            rotate_left
            · intro w'
              go_simp
              with_reducible rfl
            rotate_left
            · simp only [Act.put, List.setIfInBounds_toArray, List.set_cons_zero, List.set_cons_succ, i64_w, i32_w]
              rfl
            refine pure_ (i := 19) (N := some 41) (v := ?_) (a' := ?_) #[true, true, true, true, true, true, true, true, true, true, true, true, true, true, true, true, true, true, true, true, false, false, false, false, false, false, false, false, false, false, false, false, false, false, false, false] rfl rfl (any_of HT_.out (by kernel_rfl)) (fun _ _ _ h => h) (Or.inl ⟨by rfl, ?_⟩) ?_ ?_
            rotate_left
            · intro w'
              go_simp
              with_reducible rfl
            rotate_left
            · simp only [Act.put, List.setIfInBounds_toArray, List.set_cons_zero, List.set_cons_succ, i64_w, i32_w]
              rfl
            refine pure_ (i := 20) (N := some 42) (v := ?_) (a' := ?_) #[true, true, true, true, true, true, true, true, true, true, true, true, true, true, true, true, true, true, true, true, true, false, false, false, false, false, false, false, false, false, false, false, false, false, false, false] rfl rfl (any_of HT_.out (by kernel_rfl)) (fun _ _ _ h => h) (Or.inl ⟨by rfl, ?_⟩) ?_ ?_
            rotate_left
            · intro w'
              go_simp
              with_reducible rfl
            rotate_left
            · simp only [Act.put, List.setIfInBounds_toArray, List.set_cons_zero, List.set_cons_succ, i64_w, i32_w]
              rfl
            refine pure_ (i := 22) (N := some 44) (v := ?_) (a' := ?_) #[true, true, true, true, true, true, true, true, true, true, true, true, true, true, true, true, true, true, true, true, true, false, true, false, false, false, false, false, false, false, false, false, false, false, false, false] rfl rfl (any_of HT_.out (by kernel_rfl)) (fun _ _ _ h => h) (Or.inl ⟨by rfl, ?_⟩) ?_ ?_
            rotate_left
            · intro w'
              go_simp
              with_reducible rfl
            rotate_left
            · simp only [Act.put, List.setIfInBounds_toArray, List.set_cons_zero, List.set_cons_succ, i64_w, i32_w]
              rfl
            refine pure_ (i := 23) (N := some 45) (v := ?_) (a' := ?_) #[true, true, true, true, true, true, true, true, true, true, true, true, true, true, true, true, true, true, true, true, true, false, true, true, false, false, false, false, false, false, false, false, false, false, false, false] rfl rfl (any_of HT_.out (by kernel_rfl)) (fun _ _ _ h => h) (Or.inl ⟨by rfl, ?_⟩) ?_ ?_
            rotate_left
            · intro w'
              go_simp
              with_reducible rfl
            rotate_left
            · simp only [Act.put, List.setIfInBounds_toArray, List.set_cons_zero, List.set_cons_succ, i64_w, i32_w]
              rfl
            refine pure_ (i := 25) (N := some 47) (v := ?_) (a' := ?_) #[true, true, true, true, true, true, true, true, true, true, true, true, true, true, true, true, true, true, true, true, true, false, true, true, false, true, false, false, false, false, false, false, false, false, false, false] rfl rfl (any_of HT_.out (by kernel_rfl)) (fun _ _ _ h => h) (Or.inl ⟨by rfl, ?_⟩) ?_ ?_
            rotate_left
            · intro w'
              go_simp
              with_reducible rfl
            rotate_left
            · simp only [Act.put, List.setIfInBounds_toArray, List.set_cons_zero, List.set_cons_succ, i64_w, i32_w]
              rfl
            refine take_ (i := 21) (N := some 43) (v := ?_) (a' := ?_) #[true, true, true, true, true, true, true, true, true, true, true, true, true, true, true, true, true, true, true, true, true, true, true, true, false, true, false, false, false, false, false, false, false, false, false, false] rfl rfl (take_ofW HT_.out HW_.out (by kernel_rfl)) (fun _ _ _ h => h) (Or.inl ⟨by rfl, ?_⟩) hHeld ?_ ?_
            rotate_left
            · rintro w' ⟨s0, s1, s2, s3, s4, s5⟩
              go_simp
              with_reducible rfl
            rotate_left
            · simp only [Act.put, List.setIfInBounds_toArray, List.set_cons_zero, List.set_cons_succ, i64_w, i32_w]
              rfl
            refine one_ (i := 24) (N := some 46) #[true, true, true, true, true, true, true, true, true, true, true, true, true, true, true, true, true, true, true, true, true, true, true, true, true, true, false, false, false, false, false, false, false, false, false, false] rfl rfl (one_of HT_.out (by kernel_rfl)) (by decide) (fun K hK => ?_)
            refine goes_ Try.func30 (by kernel_rfl) rfl #[.agg #[.int .i64 t14103, .int .i64 t14104, .int .i64 t14105, .int .i64 t14106, .int .i64 t14107, .slice Ao22 t14108.length co22], .int .i64 (wrap64 (t14112 + 65536))] (by rfl) rfl rfl (by (try simp only [List.map_toArray, List.map_cons, List.map_nil]); first | done | rfl | (simp only [List.length_drop, List.length_take]; rfl)) ?_
            with_reducible refine (conf_Wire.calls t14103 t14104 t14105 t14106 t14107 _ _ t14108 (wrap64 (t14112 + 65536)) t14115 _ ?side1 ?side2 A12.out).mono ?_
            (case side1 => repeat (first | exact (Kd.R_reads' HO14110.out).2.2 | (with_reducible refine Kd.C_alloc ?_ _) | (with_reducible refine Kd.C_drewN ?_ _) | (with_reducible refine Kd.C_drew ?_)))
            (case side2 => exact (Kd.R_reads' HO14110.out).2.1)
            rintro e w28 ⟨rfl, hb⟩
            refine ⟨_, rfl, ?_⟩
            have n0_ := Aside0.mk (Kd.R_below (by (with_reducible repeat (first | apply Kd.R_alloc | apply Kd.R_drewN | apply Kd.R_drew)); exact HO14110.out) hb)
            have n1_ := Aside0.mk (blk_below (g := gb14101) (o := .cells #[.int .i64 a0_0, .int .i64 a0_1, .int .i64 a0_2, .int .i64 a0_3, .int .i64 a0_4, .slice A0_5 l0_5.length c0_5] 35 (0, 0)) (by (with_reducible repeat (first | refine blk_drewN ?_ _ | refine blk_drew ?_ | refine blk_alloc ?_ _)); exact BK14101.out) hb)
            have n2_ := Aside0.mk (blk_below (g := gb14111) (o := .cells #[.int .i64 t14103, .int .i64 t14104, .int .i64 t14105, .int .i64 t14106, .int .i64 t14107, .slice Ao22 t14108.length co22] 35 (0, 0)) (by (with_reducible repeat (first | refine blk_drewN ?_ _ | refine blk_drew ?_ | refine blk_alloc ?_ _)); exact BK14111.out) hb)
            have n3_ := Aside0.mk (below_step (by repeat (first | (with_reducible first | exact HB.out | apply below_alloc | apply pw_below_drewN | apply below_drew1 | refine below_set ?_ GE14101.out | refine below_set ?_ GE14111.out) | exact HB.out)) hb)
            clear HO14110
            clear BK14101
            clear BK14111
            clear HB
            have HO14110 := n0_
            have BK14101 := n1_
            have BK14111 := n2_
            have HB := n3_
            clear n0_ n1_ n2_ n3_
            (try clear hb)
            (try clear hb2)
            (try clear hk)
            (try clear hi)
            refine hK.out _ _ ⟨(blk_cell BK14111.out 0).trans rfl, (blk_cell BK14111.out 1).trans rfl, (blk_cell BK14111.out 2).trans rfl, (blk_cell BK14111.out 3).trans rfl, (blk_cell BK14111.out 4).trans rfl, (blk_cell BK14111.out 5).trans rfl⟩ (fun hHeld => ?_)
            clear hK K
            refine norm_ (a' := ?_) ?_ ?_
            rotate_left
            · show Act.put _ (some 46) _ = _
              simp only [Act.put, List.setIfInBounds_toArray, List.set_cons_zero, List.set_cons_succ, i64_w, i32_w]
              rfl
            refine pure_ (i := 26) (N := some 48) (v := ?_) (a' := ?_) #[true, true, true, true, true, true, true, true, true, true, true, true, true, true, true, true, true, true, true, true, true, true, true, true, true, true, true, false, false, false, false, false, false, false, false, false] rfl rfl (any_of HT_.out (by kernel_rfl)) (fun _ _ _ h => h) (Or.inl ⟨by rfl, ?_⟩) ?_ ?_
            rotate_left
            · intro w'
              go_simp
              with_reducible rfl
            rotate_left
            · simp only [Act.put, List.setIfInBounds_toArray, List.set_cons_zero, List.set_cons_succ, i64_w, i32_w]
              rfl
            refine pure_ (i := 27) (N := some 49) (v := ?_) (a' := ?_) #[true, true, true, true, true, true, true, true, true, true, true, true, true, true, true, true, true, true, true, true, true, true, true, true, true, true, true, true, false, false, false, false, false, false, false, false] rfl rfl (any_of HT_.out (by kernel_rfl)) (fun _ _ _ h => h) (Or.inl ⟨by rfl, ?_⟩) ?_ ?_
            rotate_left
            · intro w'
              go_simp
              with_reducible rfl
            rotate_left
            · simp only [Act.put, List.setIfInBounds_toArray, List.set_cons_zero, List.set_cons_succ, i64_w, i32_w]
              rfl
            refine pure_ (i := 28) (N := some 50) (v := ?_) (a' := ?_) #[true, true, true, true, true, true, true, true, true, true, true, true, true, true, true, true, true, true, true, true, true, true, true, true, true, true, true, true, true, false, false, false, false, false, false, false] rfl rfl (any_of HT_.out (by kernel_rfl)) (fun _ _ _ h => h) (Or.inl ⟨by rfl, ?_⟩) ?_ ?_
            rotate_left
            · intro w'
              go_simp
              with_reducible rfl
            rotate_left
            · simp only [Act.put, List.setIfInBounds_toArray, List.set_cons_zero, List.set_cons_succ, i64_w, i32_w]
              rfl
            refine pure_ (i := 31) (N := some 53) (v := ?_) (a' := ?_) #[true, true, true, true, true, true, true, true, true, true, true, true, true, true, true, true, true, true, true, true, true, true, true, true, true, true, true, true, true, false, false, true, false, false, false, false] rfl rfl (any_of HT_.out (by kernel_rfl)) (fun _ _ _ h => h) (Or.inl ⟨by rfl, ?_⟩) ?_ ?_
            rotate_left
            · intro w'
              go_simp
              with_reducible rfl
            rotate_left
            · simp only [Act.put, List.setIfInBounds_toArray, List.set_cons_zero, List.set_cons_succ, i64_w, i32_w]
              rfl
            refine take_ (i := 29) (N := some 51) (v := ?_) (a' := ?_) #[true, true, true, true, true, true, true, true, true, true, true, true, true, true, true, true, true, true, true, true, true, true, true, true, true, true, true, true, true, true, false, true, false, false, false, false] rfl rfl (take_ofW HT_.out HW_.out (by kernel_rfl)) (fun _ _ _ h => h) (Or.inl ⟨by rfl, ?_⟩) hHeld ?_ ?_
            rotate_left
            · rintro w' ⟨s0, s1, s2, s3, s4, s5⟩
              go_simp
              with_reducible rfl
            rotate_left
            · simp only [Act.put, List.setIfInBounds_toArray, List.set_cons_zero, List.set_cons_succ, i64_w, i32_w]
              rfl
            refine take_ (i := 32) (N := some 54) (v := ?_) (a' := ?_) #[true, true, true, true, true, true, true, true, true, true, true, true, true, true, true, true, true, true, true, true, true, true, true, true, true, true, true, true, true, true, false, true, true, false, false, false] rfl rfl (take_ofW HT_.out HW_.out (by kernel_rfl)) (fun _ _ _ h => h) (Or.inl ⟨by rfl, ?_⟩) hHeld ?_ ?_
            rotate_left
            · rintro w' ⟨s0, s1, s2, s3, s4, s5⟩
              go_simp
              with_reducible rfl
            rotate_left
            · simp only [Act.put, List.setIfInBounds_toArray, List.set_cons_zero, List.set_cons_succ, i64_w, i32_w]
              rfl
            refine one_ (i := 30) (N := some 52) #[true, true, true, true, true, true, true, true, true, true, true, true, true, true, true, true, true, true, true, true, true, true, true, true, true, true, true, true, true, true, true, true, true, false, false, false] rfl rfl (one_of HT_.out (by kernel_rfl)) (by decide) (fun K hK => ?_)
            refine goes_ Try.func30 (by kernel_rfl) rfl #[.agg #[.int .i64 t14103, .int .i64 t14104, .int .i64 t14105, .int .i64 t14106, .int .i64 t14107, .slice Ao22 t14108.length co22], .int .i64 0] (by rfl) rfl rfl (by (try simp only [List.map_toArray, List.map_cons, List.map_nil]); first | done | rfl | (simp only [List.length_drop, List.length_take]; rfl)) ?_
            with_reducible refine (conf_Wire.calls t14103 t14104 t14105 t14106 t14107 _ _ t14108 0 t14116 _ ?side1 ?side2 A14.out).mono ?_
            (case side1 => repeat (first | exact (Kd.R_reads' HO14110.out).2.2 | (with_reducible refine Kd.C_alloc ?_ _) | (with_reducible refine Kd.C_drewN ?_ _) | (with_reducible refine Kd.C_drew ?_)))
            (case side2 => exact (Kd.R_reads' HO14110.out).2.1)
            rintro e w29 ⟨rfl, hb⟩
            refine ⟨_, rfl, ?_⟩
            have n0_ := Aside0.mk (Kd.R_below (by (with_reducible repeat (first | apply Kd.R_alloc | apply Kd.R_drewN | apply Kd.R_drew)); exact HO14110.out) hb)
            have n1_ := Aside0.mk (blk_below (g := gb14101) (o := .cells #[.int .i64 a0_0, .int .i64 a0_1, .int .i64 a0_2, .int .i64 a0_3, .int .i64 a0_4, .slice A0_5 l0_5.length c0_5] 35 (0, 0)) (by (with_reducible repeat (first | refine blk_drewN ?_ _ | refine blk_drew ?_ | refine blk_alloc ?_ _)); exact BK14101.out) hb)
            have n2_ := Aside0.mk (blk_below (g := gb14111) (o := .cells #[.int .i64 t14103, .int .i64 t14104, .int .i64 t14105, .int .i64 t14106, .int .i64 t14107, .slice Ao22 t14108.length co22] 35 (0, 0)) (by (with_reducible repeat (first | refine blk_drewN ?_ _ | refine blk_drew ?_ | refine blk_alloc ?_ _)); exact BK14111.out) hb)
            have n3_ := Aside0.mk (below_step (by repeat (first | (with_reducible first | exact HB.out | apply below_alloc | apply pw_below_drewN | apply below_drew1 | refine below_set ?_ GE14101.out | refine below_set ?_ GE14111.out) | exact HB.out)) hb)
            clear HO14110
            clear BK14101
            clear BK14111
            clear HB
            have HO14110 := n0_
            have BK14101 := n1_
            have BK14111 := n2_
            have HB := n3_
            clear n0_ n1_ n2_ n3_
            (try clear hb)
            (try clear hb2)
            (try clear hk)
            (try clear hi)
            refine hK.out _ _ ⟨(blk_cell BK14111.out 0).trans rfl, (blk_cell BK14111.out 1).trans rfl, (blk_cell BK14111.out 2).trans rfl, (blk_cell BK14111.out 3).trans rfl, (blk_cell BK14111.out 4).trans rfl, (blk_cell BK14111.out 5).trans rfl⟩ (fun hHeld => ?_)
            clear hK K
            refine norm_ (a' := ?_) ?_ ?_
            rotate_left
            · show Act.put _ (some 52) _ = _
              simp only [Act.put, List.setIfInBounds_toArray, List.set_cons_zero, List.set_cons_succ, i64_w, i32_w]
              rfl
            refine pure_ (i := 33) (N := some 55) (v := ?_) (a' := ?_) #[true, true, true, true, true, true, true, true, true, true, true, true, true, true, true, true, true, true, true, true, true, true, true, true, true, true, true, true, true, true, true, true, true, true, false, false] rfl rfl (any_of HT_.out (by kernel_rfl)) (fun _ _ _ h => h) (Or.inl ⟨by rfl, ?_⟩) ?_ ?_
            rotate_left
            · intro w'
              go_simp
              with_reducible rfl
            rotate_left
            · simp only [Act.put, List.setIfInBounds_toArray, List.set_cons_zero, List.set_cons_succ, i64_w, i32_w]
              rfl
            refine pure_ (i := 34) (N := some 56) (v := ?_) (a' := ?_) #[true, true, true, true, true, true, true, true, true, true, true, true, true, true, true, true, true, true, true, true, true, true, true, true, true, true, true, true, true, true, true, true, true, true, true, false] rfl rfl (any_of HT_.out (by kernel_rfl)) (fun _ _ _ h => h) (Or.inl ⟨by rfl, ?_⟩) ?_ ?_
            rotate_left
            · intro w'
              go_simp
              with_reducible rfl
            rotate_left
            · simp only [Act.put, List.setIfInBounds_toArray, List.set_cons_zero, List.set_cons_succ, i64_w, i32_w]
              rfl
            refine pure_ (i := 35) (N := some 4) (v := ?_) (a' := ?_) #[true, true, true, true, true, true, true, true, true, true, true, true, true, true, true, true, true, true, true, true, true, true, true, true, true, true, true, true, true, true, true, true, true, true, true, true] rfl rfl (any_of HT_.out (by kernel_rfl)) (fun _ _ _ h => h) (Or.inl ⟨by rfl, ?_⟩) ?_ ?_
            rotate_left
            · intro w'
              go_simp
              with_reducible rfl
            rotate_left
            · simp only [Act.put, List.setIfInBounds_toArray, List.set_cons_zero, List.set_cons_succ, i64_w, i32_w]
              rfl
            refine done_ (done_of HT_.out (by kernel_rfl)) ?_
            try go_wp2
            go_ret
            exact ⟨by first | rfl | (simp [errW_none, errW_some] <;> rfl) | (simp [*, errW_none, errW_some] <;> rfl), by repeat (first | (with_reducible first | exact HB.out | apply below_alloc | apply pw_below_drewN | apply below_drew1 | refine below_set ?_ GE14101.out | refine below_set ?_ GE14111.out) | exact HB.out)⟩
          · rw [if_neg c13] at H
            have c13b0 : (t14115 == t14113) = false := beq_eq_false_iff_ne.mpr c13
            have c13b1 : (t14115 != t14113) = true := bne_iff_ne.mpr c13
            exact absurd ((Option.some.inj H).trans HRT.out) (by decide)
        · rw [if_neg c11] at H
          have c11b0 : (t14114 == (wrap64 (t14113 + 1))) = false := beq_eq_false_iff_ne.mpr c11
          have c11b1 : (t14114 != (wrap64 (t14113 + 1))) = true := bne_iff_ne.mpr c11
          by_cases c30 : t14113 = 65535
          · rw [if_pos c30] at H
            have c30b0 : (t14113 == 65535) = true := beq_iff_eq.mpr c30
            have c30b1 : (t14113 != 65535) = false := bne_eq_false_iff_eq.mpr c30
            clear c30
            by_cases c31 : t14114 = 0
            · rw [if_pos c31] at H
              have c31b0 : (t14114 == 0) = true := beq_iff_eq.mpr c31
              have c31b1 : (t14114 != 0) = false := bne_eq_false_iff_eq.mpr c31
              clear c31
              replace H := Option.bind_eq_some_iff.mp H
              obtain ⟨t14117, A320, H⟩ := H
              replace H : (if t14117 = t14113 then ((conf_Wire.f t14103 t14104 t14105 t14106 t14107 t14108 0).bind fun t14118 => (some (t14118 == t14107))) else (some false)) = some r := H
              have A32 := Aside0.mk A320
              clear A320
              by_cases c33 : t14117 = t14113
              · rw [if_pos c33] at H
                have c33b0 : (t14117 == t14113) = true := beq_iff_eq.mpr c33
                have c33b1 : (t14117 != t14113) = false := bne_eq_false_iff_eq.mpr c33
                clear c33
                replace H := Option.bind_eq_some_iff.mp H
                obtain ⟨t14118, A340, H⟩ := H
                replace H : (some (t14118 == t14107)) = some r := H
                have A34 := Aside0.mk A340
                clear A340
                obtain rfl := Option.some.inj H
                go_enter Try.func7, Try.ntmps7
                try go_wp2_with (first | ((with_reducible refine gate_dst (N := 2) rfl ?_); refine box_event ?hg (N := 2) ?hd (cs := #[.int .i64 a0_0, .int .i64 a0_1, .int .i64 a0_2, .int .i64 a0_3, .int .i64 a0_4, .slice A0_5 l0_5.length c0_5]) (t := 35) ?hr ?_; (case hd => rfl); (case hg => rfl); (case hr => first | (go_simp; done) | (go_simp; rfl)); intro gb14101 hg w35 hbox hb; have n0_ := Aside0.mk (below_step (by repeat (first | (with_reducible first | exact HB.out | apply below_alloc | apply pw_below_drewN | apply below_drew1) | exact HB.out)) hb); have n1_ := Aside0.mk (hbox); have n2_ := Aside0.mk ((by rw [hg]; exact (below_size (by repeat (first | (with_reducible first | exact HB.out | apply below_alloc | apply pw_below_drewN | apply below_drew1) | exact HB.out))) : w.heap.size ≤ gb14101)); have n3_ := Aside0.mk ((by rw [hg]; exact (below_size (by repeat (first | (with_reducible first | exact HB.out | apply below_alloc | apply pw_below_drewN | apply below_drew1) | exact HB.out))) : w.heap.size ≤ gb14101)); clear HB; have HB := n0_; have BK14101 := n1_; have GW14101 := n2_; have GE14101 := n3_; clear n0_ n1_ n2_ n3_; clear hb hbox hg) | ((with_reducible refine gate_callee (f := 25) rfl ?_); refine goesL_ (some 9) rfl rfl Try.func25 (by kernel_rfl) rfl #[] rfl (by (try simp only [List.map_toArray, List.map_cons, List.map_nil]); first | done | rfl | (simp only [List.length_drop, List.length_take]; rfl)) ?_; (with_reducible refine (plaitinglaw3_known.calls  true _ A3.out).mono ?_); rintro e w36 ⟨rfl, hb⟩; refine ⟨_, rfl, ?_⟩; have n0_ := Aside0.mk (blk_below (g := gb14101) (o := .cells #[.int .i64 a0_0, .int .i64 a0_1, .int .i64 a0_2, .int .i64 a0_3, .int .i64 a0_4, .slice A0_5 l0_5.length c0_5] 35 (0, 0)) (by (with_reducible repeat (first | refine blk_drewN ?_ _ | refine blk_drew ?_ | refine blk_alloc ?_ _)); exact BK14101.out) hb); have n1_ := Aside0.mk (below_step (by repeat (first | (with_reducible first | exact HB.out | apply below_alloc | apply pw_below_drewN | apply below_drew1 | refine below_set ?_ GE14101.out) | exact HB.out)) hb); clear BK14101; clear HB; have BK14101 := n0_; have HB := n1_; clear n0_ n1_; (try clear hb); (try clear hb2); (try clear hk); (try clear hi); have hcz37_0 : w36.cell? ⟨gb14101, 0, none⟩ = some (.int .i64 a0_0) := (blk_cell BK14101.out 0).trans rfl; have hcz37_1 : w36.cell? ⟨gb14101, 1, none⟩ = some (.int .i64 a0_1) := (blk_cell BK14101.out 1).trans rfl; have hcz37_2 : w36.cell? ⟨gb14101, 2, none⟩ = some (.int .i64 a0_2) := (blk_cell BK14101.out 2).trans rfl; have hcz37_3 : w36.cell? ⟨gb14101, 3, none⟩ = some (.int .i64 a0_3) := (blk_cell BK14101.out 3).trans rfl; have hcz37_4 : w36.cell? ⟨gb14101, 4, none⟩ = some (.int .i64 a0_4) := (blk_cell BK14101.out 4).trans rfl; have hcz37_5 : w36.cell? ⟨gb14101, 5, none⟩ = some (.slice A0_5 l0_5.length c0_5) := (blk_cell BK14101.out 5).trans rfl; have hfz37_0 := blk_frozen BK14101.out 0; have hfz37_1 := blk_frozen BK14101.out 1; have hfz37_2 := blk_frozen BK14101.out 2; have hfz37_3 := blk_frozen BK14101.out 3; have hfz37_4 := blk_frozen BK14101.out 4; have hfz37_5 := blk_frozen BK14101.out 5) | ((with_reducible refine gate_callee (f := 26) rfl ?_); refine goesL_ (some 12) rfl rfl Try.func26 (by kernel_rfl) rfl #[.agg #[.int .i64 a0_0, .int .i64 a0_1, .int .i64 a0_2, .int .i64 a0_3, .int .i64 a0_4, .slice A0_5 l0_5.length c0_5]] rfl (by (try simp only [List.map_toArray, List.map_cons, List.map_nil]); first | done | rfl | (simp only [List.length_drop, List.length_take]; rfl)) ?_; (with_reducible refine (plaitinglaw3_Make.calls k a0_0 a0_1 a0_2 a0_3 a0_4 _ _ l0_5 t14103 t14104 t14105 t14106 t14107 t14108 _ ?side1 ?side2 A5.out).mono ?_); (case side1 => repeat (first | exact (Kd.C_below HR0_5.out HB.out) | (with_reducible refine Kd.C_alloc ?_ _) | (with_reducible refine Kd.C_drewN ?_ _) | (with_reducible refine Kd.C_drew ?_))); (case side2 => exact HC0_5.out); rintro e w38 ⟨v14109, rfl, ho0, hb⟩; refine ⟨_, rfl, ?_⟩; have n0_ := Aside0.mk (Kd.R_lower ho0 (below_size (by repeat (first | (with_reducible first | exact HB.out | apply below_alloc | apply pw_below_drewN | apply below_drew1 | refine below_set ?_ GE14101.out) | exact HB.out)))); have n1_ := Aside0.mk (blk_below (g := gb14101) (o := .cells #[.int .i64 a0_0, .int .i64 a0_1, .int .i64 a0_2, .int .i64 a0_3, .int .i64 a0_4, .slice A0_5 l0_5.length c0_5] 35 (0, 0)) (by (with_reducible repeat (first | refine blk_drewN ?_ _ | refine blk_drew ?_ | refine blk_alloc ?_ _)); exact BK14101.out) hb); have n2_ := Aside0.mk (below_step (by repeat (first | (with_reducible first | exact HB.out | apply below_alloc | apply pw_below_drewN | apply below_drew1 | refine below_set ?_ GE14101.out) | exact HB.out)) hb); clear BK14101; clear HB; have HO14110 := n0_; have BK14101 := n1_; have HB := n2_; clear n0_ n1_ n2_; (try clear hb); (try clear hb2); (try clear hk); (try clear hi); (try clear ho0)) | ((with_reducible refine gate_dst (N := 5) rfl ?_); refine box_event ?hg (N := 5) ?hd (cs := #[.int .i64 0, .int .i64 0, .int .i64 0, .int .i64 0, .int .i64 0, .slice none 0 0]) (t := 35) ?hr ?_; (case hd => rfl); (case hg => rfl); (case hr => first | (go_simp; done) | (go_simp; rfl)); intro gb14111 hg w39 hbox hb; have n0_ := Aside0.mk (Kd.R_below (by (with_reducible repeat (first | apply Kd.R_alloc | apply Kd.R_drewN | apply Kd.R_drew)); exact HO14110.out) hb); have n1_ := Aside0.mk (blk_below (g := gb14101) (o := .cells #[.int .i64 a0_0, .int .i64 a0_1, .int .i64 a0_2, .int .i64 a0_3, .int .i64 a0_4, .slice A0_5 l0_5.length c0_5] 35 (0, 0)) (by (with_reducible repeat (first | refine blk_drewN ?_ _ | refine blk_drew ?_ | refine blk_alloc ?_ _)); exact BK14101.out) hb); have n2_ := Aside0.mk (below_step (by repeat (first | (with_reducible first | exact HB.out | apply below_alloc | apply pw_below_drewN | apply below_drew1 | refine below_set ?_ GE14101.out) | exact HB.out)) hb); have n3_ := Aside0.mk (hbox); have n4_ := Aside0.mk ((by rw [hg]; exact (below_size (by repeat (first | (with_reducible first | exact HB.out | apply below_alloc | apply pw_below_drewN | apply below_drew1 | refine below_set ?_ GE14101.out) | exact HB.out))) : w.heap.size ≤ gb14111)); have n5_ := Aside0.mk ((by rw [hg]; exact (below_size (by repeat (first | (with_reducible first | exact HB.out | apply below_alloc | apply pw_below_drewN | apply below_drew1 | refine below_set ?_ GE14101.out) | exact HB.out))) : w.heap.size ≤ gb14111)); have n6_ := Aside0.mk ((by rw [hg]; exact Nat.ne_of_lt (blk_lt (g := gb14101) (o := .cells #[.int .i64 a0_0, .int .i64 a0_1, .int .i64 a0_2, .int .i64 a0_3, .int .i64 a0_4, .slice A0_5 l0_5.length c0_5] 35 (0, 0)) (by (with_reducible repeat (first | refine blk_drewN ?_ _ | refine blk_drew ?_ | refine blk_alloc ?_ _)); exact BK14101.out)) : gb14101 ≠ gb14111)); have n7_ := Aside0.mk ((by rw [hg]; exact Nat.ne_of_gt (blk_lt (g := gb14101) (o := .cells #[.int .i64 a0_0, .int .i64 a0_1, .int .i64 a0_2, .int .i64 a0_3, .int .i64 a0_4, .slice A0_5 l0_5.length c0_5] 35 (0, 0)) (by (with_reducible repeat (first | refine blk_drewN ?_ _ | refine blk_drew ?_ | refine blk_alloc ?_ _)); exact BK14101.out)) : gb14111 ≠ gb14101)); clear HO14110; clear BK14101; clear HB; have HO14110 := n0_; have BK14101 := n1_; have HB := n2_; have BK14111 := n3_; have GW14111 := n4_; have GE14111 := n5_; have NB14101_14111 := n6_; have NB14111_14101 := n7_; clear n0_ n1_ n2_ n3_ n4_ n5_ n6_ n7_; clear hb hbox hg; have hnb40 := NB14111_14101.out; have hnc40 := NB14101_14111.out; have hcz41_0 : w39.cell? ⟨gb14111, 0, none⟩ = some (.int .i64 0) := (blk_cell BK14111.out 0).trans rfl; have hcz41_1 : w39.cell? ⟨gb14111, 1, none⟩ = some (.int .i64 0) := (blk_cell BK14111.out 1).trans rfl; have hcz41_2 : w39.cell? ⟨gb14111, 2, none⟩ = some (.int .i64 0) := (blk_cell BK14111.out 2).trans rfl; have hcz41_3 : w39.cell? ⟨gb14111, 3, none⟩ = some (.int .i64 0) := (blk_cell BK14111.out 3).trans rfl; have hcz41_4 : w39.cell? ⟨gb14111, 4, none⟩ = some (.int .i64 0) := (blk_cell BK14111.out 4).trans rfl; have hcz41_5 : w39.cell? ⟨gb14111, 5, none⟩ = some (.slice none 0 0) := (blk_cell BK14111.out 5).trans rfl; have hfz41_0 := blk_frozen BK14111.out 0; have hfz41_1 := blk_frozen BK14111.out 1; have hfz41_2 := blk_frozen BK14111.out 2; have hfz41_3 := blk_frozen BK14111.out 3; have hfz41_4 := blk_frozen BK14111.out 4; have hfz41_5 := blk_frozen BK14111.out 5; obtain ⟨Ao42, co42, eo42⟩ := Kd.R_slice HO14110.out; subst eo42) | ((with_reducible refine gate_callee (f := 29) rfl ?_); refine goesL_ (some 14) rfl rfl Try.func29 (by kernel_rfl) rfl #[.int .i64 a1, .int .i64 200000] rfl (by (try simp only [List.map_toArray, List.map_cons, List.map_nil]); first | done | rfl | (simp only [List.length_drop, List.length_take]; rfl)) ?_; (with_reducible refine (plaitinglaw3_within.calls a1 200000 t14112 _ A6.out).mono ?_); rintro e w' ⟨rfl, ⟨nd, rfl⟩⟩; refine ⟨_, rfl, ?_⟩))
                have n0_ : Aside0 (Kd.R (Kd.int .i64) 3 ((((((w39.setCell ⟨gb14111, 0, none⟩ (.int .i64 t14103)).setCell ⟨gb14111, 1, none⟩ (.int .i64 t14104)).setCell ⟨gb14111, 2, none⟩ (.int .i64 t14105)).setCell ⟨gb14111, 3, none⟩ (.int .i64 t14106)).setCell ⟨gb14111, 4, none⟩ (.int .i64 t14107)).setCell ⟨gb14111, 5, none⟩ (.slice Ao42 t14108.length co42)) w.heap.size (fun _ => True) (.slice Ao42 t14108.length co42) t14108) := ⟨by (with_reducible repeat (first | apply Kd.R_alloc | apply Kd.R_drewN | apply Kd.R_drew)); exact Kd.R_mono (Kd.R_far (p := ⟨gb14111, 5, none⟩) (Kd.R_far (p := ⟨gb14111, 4, none⟩) (Kd.R_far (p := ⟨gb14111, 3, none⟩) (Kd.R_far (p := ⟨gb14111, 2, none⟩) (Kd.R_far (p := ⟨gb14111, 1, none⟩) (Kd.R_far (p := ⟨gb14111, 0, none⟩) (Kd.R_types HO14110.out BK14111.out (by decide)) (fun _ hk => hk.2) (.int .i64 t14103)) (fun _ hk => hk.2) (.int .i64 t14104)) (fun _ hk => hk.2) (.int .i64 t14105)) (fun _ hk => hk.2) (.int .i64 t14106)) (fun _ hk => hk.2) (.int .i64 t14107)) (fun _ hk => hk.2) (.slice Ao42 t14108.length co42)) (fun _ hk => trivial)⟩
                have n1_ : Aside0 (((((((w39.setCell ⟨gb14111, 0, none⟩ (.int .i64 t14103)).setCell ⟨gb14111, 1, none⟩ (.int .i64 t14104)).setCell ⟨gb14111, 2, none⟩ (.int .i64 t14105)).setCell ⟨gb14111, 3, none⟩ (.int .i64 t14106)).setCell ⟨gb14111, 4, none⟩ (.int .i64 t14107)).setCell ⟨gb14111, 5, none⟩ (.slice Ao42 t14108.length co42)).heap[gb14101]? = some (.cells #[.int .i64 a0_0, .int .i64 a0_1, .int .i64 a0_2, .int .i64 a0_3, .int .i64 a0_4, .slice A0_5 l0_5.length c0_5] 35 (0, 0))) := ⟨by (with_reducible repeat (first | refine blk_drewN ?_ _ | refine blk_drew ?_ | refine blk_alloc ?_ _)); refine blk_far ?_ NB14101_14111.out _; (with_reducible repeat (first | refine blk_drewN ?_ _ | refine blk_drew ?_ | refine blk_alloc ?_ _)); refine blk_far ?_ NB14101_14111.out _; (with_reducible repeat (first | refine blk_drewN ?_ _ | refine blk_drew ?_ | refine blk_alloc ?_ _)); refine blk_far ?_ NB14101_14111.out _; (with_reducible repeat (first | refine blk_drewN ?_ _ | refine blk_drew ?_ | refine blk_alloc ?_ _)); refine blk_far ?_ NB14101_14111.out _; (with_reducible repeat (first | refine blk_drewN ?_ _ | refine blk_drew ?_ | refine blk_alloc ?_ _)); refine blk_far ?_ NB14101_14111.out _; (with_reducible repeat (first | refine blk_drewN ?_ _ | refine blk_drew ?_ | refine blk_alloc ?_ _)); refine blk_far ?_ NB14101_14111.out _; (with_reducible repeat (first | refine blk_drewN ?_ _ | refine blk_drew ?_ | refine blk_alloc ?_ _)); exact BK14101.out⟩
                have n2_ : Aside0 (((((((w39.setCell ⟨gb14111, 0, none⟩ (.int .i64 t14103)).setCell ⟨gb14111, 1, none⟩ (.int .i64 t14104)).setCell ⟨gb14111, 2, none⟩ (.int .i64 t14105)).setCell ⟨gb14111, 3, none⟩ (.int .i64 t14106)).setCell ⟨gb14111, 4, none⟩ (.int .i64 t14107)).setCell ⟨gb14111, 5, none⟩ (.slice Ao42 t14108.length co42)).heap[gb14111]? = some (.cells #[.int .i64 t14103, .int .i64 t14104, .int .i64 t14105, .int .i64 t14106, .int .i64 t14107, .slice Ao42 t14108.length co42] 35 (0, 0))) := ⟨by (with_reducible repeat (first | refine blk_drewN ?_ _ | refine blk_drew ?_ | refine blk_alloc ?_ _)); refine blk_put (cs := #[.int .i64 t14103, .int .i64 t14104, .int .i64 t14105, .int .i64 t14106, .int .i64 t14107, .slice none 0 0]) ?_ 5 _ rfl; (with_reducible repeat (first | refine blk_drewN ?_ _ | refine blk_drew ?_ | refine blk_alloc ?_ _)); refine blk_put (cs := #[.int .i64 t14103, .int .i64 t14104, .int .i64 t14105, .int .i64 t14106, .int .i64 0, .slice none 0 0]) ?_ 4 _ rfl; (with_reducible repeat (first | refine blk_drewN ?_ _ | refine blk_drew ?_ | refine blk_alloc ?_ _)); refine blk_put (cs := #[.int .i64 t14103, .int .i64 t14104, .int .i64 t14105, .int .i64 0, .int .i64 0, .slice none 0 0]) ?_ 3 _ rfl; (with_reducible repeat (first | refine blk_drewN ?_ _ | refine blk_drew ?_ | refine blk_alloc ?_ _)); refine blk_put (cs := #[.int .i64 t14103, .int .i64 t14104, .int .i64 0, .int .i64 0, .int .i64 0, .slice none 0 0]) ?_ 2 _ rfl; (with_reducible repeat (first | refine blk_drewN ?_ _ | refine blk_drew ?_ | refine blk_alloc ?_ _)); refine blk_put (cs := #[.int .i64 t14103, .int .i64 0, .int .i64 0, .int .i64 0, .int .i64 0, .slice none 0 0]) ?_ 1 _ rfl; (with_reducible repeat (first | refine blk_drewN ?_ _ | refine blk_drew ?_ | refine blk_alloc ?_ _)); refine blk_put (cs := #[.int .i64 0, .int .i64 0, .int .i64 0, .int .i64 0, .int .i64 0, .slice none 0 0]) ?_ 0 _ rfl; (with_reducible repeat (first | refine blk_drewN ?_ _ | refine blk_drew ?_ | refine blk_alloc ?_ _)); exact BK14111.out⟩
                have n3_ : Aside0 (Below w.heap.size w ((((((w39.setCell ⟨gb14111, 0, none⟩ (.int .i64 t14103)).setCell ⟨gb14111, 1, none⟩ (.int .i64 t14104)).setCell ⟨gb14111, 2, none⟩ (.int .i64 t14105)).setCell ⟨gb14111, 3, none⟩ (.int .i64 t14106)).setCell ⟨gb14111, 4, none⟩ (.int .i64 t14107)).setCell ⟨gb14111, 5, none⟩ (.slice Ao42 t14108.length co42))) := ⟨by repeat (first | (with_reducible first | exact HB.out | apply below_alloc | apply pw_below_drewN | apply below_drew1 | refine below_set ?_ GE14101.out | refine below_set ?_ GE14111.out) | exact HB.out)⟩
                (try clear HO14110)
                (try clear BK14101)
                (try clear BK14111)
                (try clear HB)
                generalize ((((((w39.setCell ⟨gb14111, 0, none⟩ (.int .i64 t14103)).setCell ⟨gb14111, 1, none⟩ (.int .i64 t14104)).setCell ⟨gb14111, 2, none⟩ (.int .i64 t14105)).setCell ⟨gb14111, 3, none⟩ (.int .i64 t14106)).setCell ⟨gb14111, 4, none⟩ (.int .i64 t14107)).setCell ⟨gb14111, 5, none⟩ (.slice Ao42 t14108.length co42)) = w43 at n0_ n1_ n2_ n3_ ⊢
                have HO14110 := n0_
                have BK14101 := n1_
                have BK14111 := n2_
                have HB := n3_
                clear n0_ n1_ n2_ n3_
                (try (rw [drewN_self w43]; generalize hq_ : World.drewN w43 _ = w43; have n0_ : Aside0 (Kd.R (Kd.int .i64) 3 w43 w.heap.size (fun _ => True) (.slice Ao42 t14108.length co42) t14108) := ⟨by rw [← hq_]; exact (by (with_reducible repeat (first | apply Kd.R_alloc | apply Kd.R_drewN | apply Kd.R_drew)); exact HO14110.out)⟩; have n1_ : Aside0 (w43.heap[gb14101]? = some (.cells #[.int .i64 a0_0, .int .i64 a0_1, .int .i64 a0_2, .int .i64 a0_3, .int .i64 a0_4, .slice A0_5 l0_5.length c0_5] 35 (0, 0))) := ⟨by rw [← hq_]; exact (by (with_reducible repeat (first | refine blk_drewN ?_ _ | refine blk_drew ?_ | refine blk_alloc ?_ _)); exact BK14101.out)⟩; have n2_ : Aside0 (w43.heap[gb14111]? = some (.cells #[.int .i64 t14103, .int .i64 t14104, .int .i64 t14105, .int .i64 t14106, .int .i64 t14107, .slice Ao42 t14108.length co42] 35 (0, 0))) := ⟨by rw [← hq_]; exact (by (with_reducible repeat (first | refine blk_drewN ?_ _ | refine blk_drew ?_ | refine blk_alloc ?_ _)); exact BK14111.out)⟩; have n3_ : Aside0 (Below w.heap.size w w43) := ⟨by rw [← hq_]; exact (by repeat (first | (with_reducible first | exact HB.out | apply below_alloc | apply pw_below_drewN | apply below_drew1 | refine below_set ?_ GE14101.out | refine below_set ?_ GE14111.out) | exact HB.out))⟩; clear HO14110 BK14101 BK14111 HB hq_; have HO14110 := n0_; have BK14101 := n1_; have BK14111 := n2_; have HB := n3_; clear n0_ n1_ n2_ n3_))
                have n0_ := Aside0.mk (Kd.R_drew HO14110.out)
                have n1_ := Aside0.mk (blk_drew BK14101.out)
                have n2_ := Aside0.mk (blk_drew BK14111.out)
                have n3_ := Aside0.mk (below_drew1 HB.out)
                clear HO14110
                clear BK14101
                clear BK14111
                clear HB
                have HO14110 := n0_
                have BK14101 := n1_
                have BK14111 := n2_
                have HB := n3_
                clear n0_ n1_ n2_ n3_
                refine start_ (n := 9) (S := fun w' => w'.cell? ⟨gb14111, 0, none⟩ = some (.int .i64 t14103) ∧ w'.cell? ⟨gb14111, 1, none⟩ = some (.int .i64 t14104) ∧ w'.cell? ⟨gb14111, 2, none⟩ = some (.int .i64 t14105) ∧ w'.cell? ⟨gb14111, 3, none⟩ = some (.int .i64 t14106) ∧ w'.cell? ⟨gb14111, 4, none⟩ = some (.int .i64 t14107) ∧ w'.cell? ⟨gb14111, 5, none⟩ = some (.slice Ao42 t14108.length co42)) (ds := []) #[false, false, false, false, false, false, false, false, false] (by kernel_rfl) rfl rfl ⟨(blk_cell BK14111.out 0).trans rfl, (blk_cell BK14111.out 1).trans rfl, (blk_cell BK14111.out 2).trans rfl, (blk_cell BK14111.out 3).trans rfl, (blk_cell BK14111.out 4).trans rfl, (blk_cell BK14111.out 5).trans rfl⟩ (fun hHeld => ?_); refine with_tabW plaitinglaw3_ConfRounds.tab5 plaitinglaw3_ConfRounds.bits5 (fun HT_ HW_ => ?_)
                generalize w43.drew = w44 at HO14110 BK14101 BK14111 HB hHeld ⊢
                refine pure_ (i := 1) (N := some 16) (v := ?_) (a' := ?_) #[false, true, false, false, false, false, false, false, false] rfl rfl (any_of HT_.out (by kernel_rfl)) (fun _ _ _ h => h) (Or.inl ⟨by rfl, ?_⟩) ?_ ?_
                rotate_left
                · intro w'
                  go_simp
                  with_reducible rfl
                rotate_left
                · simp only [Act.put, List.setIfInBounds_toArray, List.set_cons_zero, List.set_cons_succ, i64_w, i32_w]
                  rfl
                refine pure_ (i := 4) (N := some 19) (v := ?_) (a' := ?_) #[false, true, false, false, true, false, false, false, false] rfl rfl (any_of HT_.out (by kernel_rfl)) (fun _ _ _ h => h) (Or.inl ⟨by rfl, ?_⟩) ?_ ?_
                rotate_left
                · intro w'
                  go_simp
                  with_reducible rfl
                rotate_left
                · simp only [Act.put, List.setIfInBounds_toArray, List.set_cons_zero, List.set_cons_succ, i64_w, i32_w]
                  rfl
                refine pure_ (i := 5) (N := some 20) (v := ?_) (a' := ?_) #[false, true, false, false, true, true, false, false, false] rfl rfl (any_of HT_.out (by kernel_rfl)) (fun _ _ _ h => h) (Or.inl ⟨by rfl, ?_⟩) ?_ ?_
                rotate_left
                · intro w'
                  go_simp
                  with_reducible rfl
                rotate_left
                · simp only [Act.put, List.setIfInBounds_toArray, List.set_cons_zero, List.set_cons_succ, i64_w, i32_w]
                  rfl
                refine take_ (i := 0) (N := some 15) (v := ?_) (a' := ?_) #[true, true, false, false, true, true, false, false, false] rfl rfl (take_ofW HT_.out HW_.out (by kernel_rfl)) (fun _ _ _ h => h) (Or.inl ⟨by rfl, ?_⟩) hHeld ?_ ?_
                rotate_left
                · rintro w' ⟨s0, s1, s2, s3, s4, s5⟩
                  go_simp
                  with_reducible rfl
                rotate_left
                · simp only [Act.put, List.setIfInBounds_toArray, List.set_cons_zero, List.set_cons_succ, i64_w, i32_w]
                  rfl
                refine take_ (i := 3) (N := some 18) (v := ?_) (a' := ?_) #[true, true, false, true, true, true, false, false, false] rfl rfl (take_ofW HT_.out HW_.out (by kernel_rfl)) (fun _ _ _ h => h) (Or.inl ⟨by rfl, ?_⟩) hHeld ?_ ?_
                rotate_left
                · rintro w' ⟨s0, s1, s2, s3, s4, s5⟩
                  go_simp
                  with_reducible rfl
                rotate_left
                · simp only [Act.put, List.setIfInBounds_toArray, List.set_cons_zero, List.set_cons_succ, i64_w, i32_w]
                  rfl
                refine one_ (i := 2) (N := some 17) #[true, true, true, true, true, true, false, false, false] rfl rfl (one_of HT_.out (by kernel_rfl)) (by decide) (fun K hK => ?_)
                refine goes_ Try.func30 (by kernel_rfl) rfl #[.agg #[.int .i64 t14103, .int .i64 t14104, .int .i64 t14105, .int .i64 t14106, .int .i64 t14107, .slice Ao42 t14108.length co42], .int .i64 t14112] (by rfl) rfl rfl (by (try simp only [List.map_toArray, List.map_cons, List.map_nil]); first | done | rfl | (simp only [List.length_drop, List.length_take]; rfl)) ?_
                with_reducible refine (conf_Wire.calls t14103 t14104 t14105 t14106 t14107 _ _ t14108 t14112 t14113 _ ?side1 ?side2 A7.out).mono ?_
                (case side1 => repeat (first | exact (Kd.R_reads' HO14110.out).2.2 | (with_reducible refine Kd.C_alloc ?_ _) | (with_reducible refine Kd.C_drewN ?_ _) | (with_reducible refine Kd.C_drew ?_)))
                (case side2 => exact (Kd.R_reads' HO14110.out).2.1)
                rintro e w45 ⟨rfl, hb⟩
                refine ⟨_, rfl, ?_⟩
                have n0_ := Aside0.mk (Kd.R_below (by (with_reducible repeat (first | apply Kd.R_alloc | apply Kd.R_drewN | apply Kd.R_drew)); exact HO14110.out) hb)
                have n1_ := Aside0.mk (blk_below (g := gb14101) (o := .cells #[.int .i64 a0_0, .int .i64 a0_1, .int .i64 a0_2, .int .i64 a0_3, .int .i64 a0_4, .slice A0_5 l0_5.length c0_5] 35 (0, 0)) (by (with_reducible repeat (first | refine blk_drewN ?_ _ | refine blk_drew ?_ | refine blk_alloc ?_ _)); exact BK14101.out) hb)
                have n2_ := Aside0.mk (blk_below (g := gb14111) (o := .cells #[.int .i64 t14103, .int .i64 t14104, .int .i64 t14105, .int .i64 t14106, .int .i64 t14107, .slice Ao42 t14108.length co42] 35 (0, 0)) (by (with_reducible repeat (first | refine blk_drewN ?_ _ | refine blk_drew ?_ | refine blk_alloc ?_ _)); exact BK14111.out) hb)
                have n3_ := Aside0.mk (below_step (by repeat (first | (with_reducible first | exact HB.out | apply below_alloc | apply pw_below_drewN | apply below_drew1 | refine below_set ?_ GE14101.out | refine below_set ?_ GE14111.out) | exact HB.out)) hb)
                clear HO14110
                clear BK14101
                clear BK14111
                clear HB
                have HO14110 := n0_
                have BK14101 := n1_
                have BK14111 := n2_
                have HB := n3_
                clear n0_ n1_ n2_ n3_
                (try clear hb)
                (try clear hb2)
                (try clear hk)
                (try clear hi)
                refine hK.out _ _ ⟨(blk_cell BK14111.out 0).trans rfl, (blk_cell BK14111.out 1).trans rfl, (blk_cell BK14111.out 2).trans rfl, (blk_cell BK14111.out 3).trans rfl, (blk_cell BK14111.out 4).trans rfl, (blk_cell BK14111.out 5).trans rfl⟩ (fun hHeld => ?_)
                clear hK K
                refine norm_ (a' := ?_) ?_ ?_
                rotate_left
                · show Act.put _ (some 17) _ = _
                  simp only [Act.put, List.setIfInBounds_toArray, List.set_cons_zero, List.set_cons_succ, i64_w, i32_w]
                  rfl
                refine one_ (i := 6) (N := some 21) #[true, true, true, true, true, true, true, false, false] rfl rfl (one_of HT_.out (by kernel_rfl)) (by decide) (fun K hK => ?_)
                refine goes_ Try.func30 (by kernel_rfl) rfl #[.agg #[.int .i64 t14103, .int .i64 t14104, .int .i64 t14105, .int .i64 t14106, .int .i64 t14107, .slice Ao42 t14108.length co42], .int .i64 (wrap64 (t14112 + 1))] (by rfl) rfl rfl (by (try simp only [List.map_toArray, List.map_cons, List.map_nil]); first | done | rfl | (simp only [List.length_drop, List.length_take]; rfl)) ?_
                with_reducible refine (conf_Wire.calls t14103 t14104 t14105 t14106 t14107 _ _ t14108 (wrap64 (t14112 + 1)) t14114 _ ?side1 ?side2 A8.out).mono ?_
                (case side1 => repeat (first | exact (Kd.R_reads' HO14110.out).2.2 | (with_reducible refine Kd.C_alloc ?_ _) | (with_reducible refine Kd.C_drewN ?_ _) | (with_reducible refine Kd.C_drew ?_)))
                (case side2 => exact (Kd.R_reads' HO14110.out).2.1)
                rintro e w46 ⟨rfl, hb⟩
                refine ⟨_, rfl, ?_⟩
                have n0_ := Aside0.mk (Kd.R_below (by (with_reducible repeat (first | apply Kd.R_alloc | apply Kd.R_drewN | apply Kd.R_drew)); exact HO14110.out) hb)
                have n1_ := Aside0.mk (blk_below (g := gb14101) (o := .cells #[.int .i64 a0_0, .int .i64 a0_1, .int .i64 a0_2, .int .i64 a0_3, .int .i64 a0_4, .slice A0_5 l0_5.length c0_5] 35 (0, 0)) (by (with_reducible repeat (first | refine blk_drewN ?_ _ | refine blk_drew ?_ | refine blk_alloc ?_ _)); exact BK14101.out) hb)
                have n2_ := Aside0.mk (blk_below (g := gb14111) (o := .cells #[.int .i64 t14103, .int .i64 t14104, .int .i64 t14105, .int .i64 t14106, .int .i64 t14107, .slice Ao42 t14108.length co42] 35 (0, 0)) (by (with_reducible repeat (first | refine blk_drewN ?_ _ | refine blk_drew ?_ | refine blk_alloc ?_ _)); exact BK14111.out) hb)
                have n3_ := Aside0.mk (below_step (by repeat (first | (with_reducible first | exact HB.out | apply below_alloc | apply pw_below_drewN | apply below_drew1 | refine below_set ?_ GE14101.out | refine below_set ?_ GE14111.out) | exact HB.out)) hb)
                clear HO14110
                clear BK14101
                clear BK14111
                clear HB
                have HO14110 := n0_
                have BK14101 := n1_
                have BK14111 := n2_
                have HB := n3_
                clear n0_ n1_ n2_ n3_
                (try clear hb)
                (try clear hb2)
                (try clear hk)
                (try clear hi)
                refine hK.out _ _ ⟨(blk_cell BK14111.out 0).trans rfl, (blk_cell BK14111.out 1).trans rfl, (blk_cell BK14111.out 2).trans rfl, (blk_cell BK14111.out 3).trans rfl, (blk_cell BK14111.out 4).trans rfl, (blk_cell BK14111.out 5).trans rfl⟩ (fun hHeld => ?_)
                clear hK K
                refine norm_ (a' := ?_) ?_ ?_
                rotate_left
                · show Act.put _ (some 21) _ = _
                  simp only [Act.put, List.setIfInBounds_toArray, List.set_cons_zero, List.set_cons_succ, i64_w, i32_w]
                  rfl
                refine pure_ (i := 7) (N := some 7) (v := ?_) (a' := ?_) #[true, true, true, true, true, true, true, true, false] rfl rfl (any_of HT_.out (by kernel_rfl)) (fun _ _ _ h => h) (Or.inl ⟨by rfl, ?_⟩) ?_ ?_
                rotate_left
                · intro w'
                  go_simp
                  with_reducible rfl
                rotate_left
                · simp only [Act.put, List.setIfInBounds_toArray, List.set_cons_zero, List.set_cons_succ, i64_w, i32_w]
                  rfl
                refine pure_ (i := 8) (N := some 8) (v := ?_) (a' := ?_) #[true, true, true, true, true, true, true, true, true] rfl rfl (any_of HT_.out (by kernel_rfl)) (fun _ _ _ h => h) (Or.inl ⟨by rfl, ?_⟩) ?_ ?_
                rotate_left
                · intro w'
                  go_simp
                  with_reducible rfl
                rotate_left
                · simp only [Act.put, List.setIfInBounds_toArray, List.set_cons_zero, List.set_cons_succ, i64_w, i32_w]
                  rfl
                refine done_ (done_of HT_.out (by kernel_rfl)) ?_
                try go_wp2
                have n0_ := Aside0.mk (Kd.R_drew HO14110.out)
                have n1_ := Aside0.mk (blk_drew BK14101.out)
                have n2_ := Aside0.mk (blk_drew BK14111.out)
                have n3_ := Aside0.mk (below_drew1 HB.out)
                clear HO14110
                clear BK14101
                clear BK14111
                clear HB
                have HO14110 := n0_
                have BK14101 := n1_
                have BK14111 := n2_
                have HB := n3_
                clear n0_ n1_ n2_ n3_
                refine start_ (n := 36) (S := fun w' => w'.cell? ⟨gb14111, 0, none⟩ = some (.int .i64 t14103) ∧ w'.cell? ⟨gb14111, 1, none⟩ = some (.int .i64 t14104) ∧ w'.cell? ⟨gb14111, 2, none⟩ = some (.int .i64 t14105) ∧ w'.cell? ⟨gb14111, 3, none⟩ = some (.int .i64 t14106) ∧ w'.cell? ⟨gb14111, 4, none⟩ = some (.int .i64 t14107) ∧ w'.cell? ⟨gb14111, 5, none⟩ = some (.slice Ao42 t14108.length co42)) (ds := []) #[false, false, false, false, false, false, false, false, false, false, false, false, false, false, false, false, false, false, false, false, false, false, false, false, false, false, false, false, false, false, false, false, false, false, false, false] (by kernel_rfl) rfl rfl ⟨(blk_cell BK14111.out 0).trans rfl, (blk_cell BK14111.out 1).trans rfl, (blk_cell BK14111.out 2).trans rfl, (blk_cell BK14111.out 3).trans rfl, (blk_cell BK14111.out 4).trans rfl, (blk_cell BK14111.out 5).trans rfl⟩ (fun hHeld => ?_); refine with_tabW plaitinglaw3_ConfRounds.tab6 plaitinglaw3_ConfRounds.bits6 (fun HT_ HW_ => ?_)
                generalize w46.drew = w47 at HO14110 BK14101 BK14111 HB hHeld ⊢
                refine pure_ (i := 0) (N := some 22) (v := ?_) (a' := ?_) #[true, false, false, false, false, false, false, false, false, false, false, false, false, false, false, false, false, false, false, false, false, false, false, false, false, false, false, false, false, false, false, false, false, false, false, false] rfl rfl (any_of HT_.out (by kernel_rfl)) (fun _ _ _ h => h) (Or.inl ⟨by rfl, ?_⟩) ?_ ?_
                rotate_left
                · intro w'
                  go_simp
                  with_reducible rfl
                rotate_left
                · simp only [Act.put, List.setIfInBounds_toArray, List.set_cons_zero, List.set_cons_succ, i64_w, i32_w]
                  rfl
                refine pure_ (i := 1) (N := some 23) (v := ?_) (a' := ?_) #[true, true, false, false, false, false, false, false, false, false, false, false, false, false, false, false, false, false, false, false, false, false, false, false, false, false, false, false, false, false, false, false, false, false, false, false] rfl rfl (any_of HT_.out (by kernel_rfl)) (fun _ _ _ h => h) (Or.inl ⟨by rfl, ?_⟩) ?_ ?_
                rotate_left
                · intro w'
                  go_simp
                  with_reducible rfl
                rotate_left
                · simp only [Act.put, List.setIfInBounds_toArray, List.set_cons_zero, List.set_cons_succ, i64_w, i32_w]
                  rfl
                refine pure_ (i := 2) (N := some 24) (v := ?_) (a' := ?_) #[true, true, true, false, false, false, false, false, false, false, false, false, false, false, false, false, false, false, false, false, false, false, false, false, false, false, false, false, false, false, false, false, false, false, false, false] rfl rfl (any_of HT_.out (by kernel_rfl)) (fun _ _ _ h => h) (Or.inl ⟨by rfl, ?_⟩) ?_ ?_
                rotate_left
                · intro w'
                  go_simp
                  with_reducible rfl
                rotate_left
                · simp only [Act.put, List.setIfInBounds_toArray, List.set_cons_zero, List.set_cons_succ, i64_w, i32_w]
                  rfl
                refine pure_ (i := 3) (N := some 25) (v := ?_) (a' := ?_) #[true, true, true, true, false, false, false, false, false, false, false, false, false, false, false, false, false, false, false, false, false, false, false, false, false, false, false, false, false, false, false, false, false, false, false, false] rfl rfl (any_of HT_.out (by kernel_rfl)) (fun _ _ _ h => h) (Or.inl ⟨by rfl, ?_⟩) ?_ ?_
                rotate_left
                · intro w'
                  go_simp
                  with_reducible rfl
                rotate_left
                · simp only [Act.put, List.setIfInBounds_toArray, List.set_cons_zero, List.set_cons_succ, i64_w, i32_w]
                  rfl
                refine pure_ (i := 4) (N := some 26) (v := ?_) (a' := ?_) #[true, true, true, true, true, false, false, false, false, false, false, false, false, false, false, false, false, false, false, false, false, false, false, false, false, false, false, false, false, false, false, false, false, false, false, false] rfl rfl (any_of HT_.out (by kernel_rfl)) (fun _ _ _ h => h) (Or.inl ⟨by rfl, ?_⟩) ?_ ?_
                rotate_left
                · intro w'
                  go_simp
                  with_reducible rfl
                rotate_left
                · simp only [Act.put, List.setIfInBounds_toArray, List.set_cons_zero, List.set_cons_succ, i64_w, i32_w]
                  rfl
                refine pure_ (i := 5) (N := some 27) (v := ?_) (a' := ?_) #[true, true, true, true, true, true, false, false, false, false, false, false, false, false, false, false, false, false, false, false, false, false, false, false, false, false, false, false, false, false, false, false, false, false, false, false] rfl rfl (any_of HT_.out (by kernel_rfl)) (fun _ _ _ h => h) (Or.inl ⟨by rfl, ?_⟩) ?_ ?_
                rotate_left
                · intro w'
                  go_simp
                  with_reducible rfl
                rotate_left
                · simp only [Act.put, List.setIfInBounds_toArray, List.set_cons_zero, List.set_cons_succ, i64_w, i32_w]
                  rfl
                refine pure_ (i := 6) (N := some 28) (v := ?_) (a' := ?_) #[true, true, true, true, true, true, true, false, false, false, false, false, false, false, false, false, false, false, false, false, false, false, false, false, false, false, false, false, false, false, false, false, false, false, false, false] rfl rfl (any_of HT_.out (by kernel_rfl)) (fun _ _ _ h => h) (Or.inl ⟨by rfl, ?_⟩) ?_ ?_
                rotate_left
                · intro w'
                  go_simp
                  with_reducible rfl
                rotate_left
                · simp only [Act.put, List.setIfInBounds_toArray, List.set_cons_zero, List.set_cons_succ, i64_w, i32_w]
                  rfl
                refine pure_ (i := 7) (N := some 29) (v := ?_) (a' := ?_) #[true, true, true, true, true, true, true, true, false, false, false, false, false, false, false, false, false, false, false, false, false, false, false, false, false, false, false, false, false, false, false, false, false, false, false, false] rfl rfl (any_of HT_.out (by kernel_rfl)) (fun _ _ _ h => h) (Or.inl ⟨by rfl, ?_⟩) ?_ ?_
                rotate_left
                · intro w'
                  go_simp
                  with_reducible rfl
                rotate_left
                · simp only [Act.put, List.setIfInBounds_toArray, List.set_cons_zero, List.set_cons_succ, i64_w, i32_w]
                  rfl
                refine pure_ (i := 8) (N := some 30) (v := ?_) (a' := ?_) #[true, true, true, true, true, true, true, true, true, false, false, false, false, false, false, false, false, false, false, false, false, false, false, false, false, false, false, false, false, false, false, false, false, false, false, false] rfl rfl (any_of HT_.out (by kernel_rfl)) (fun _ _ _ h => h) (Or.inl ⟨by rfl, ?_⟩) ?_ ?_
                rotate_left
                · intro w'
                  go_simp
                  with_reducible rfl
                rotate_left
                · simp only [Act.put, List.setIfInBounds_toArray, List.set_cons_zero, List.set_cons_succ, i64_w, i32_w]
                  rfl
                refine pure_ (i := 9) (N := some 31) (v := ?_) (a' := ?_) #[true, true, true, true, true, true, true, true, true, true, false, false, false, false, false, false, false, false, false, false, false, false, false, false, false, false, false, false, false, false, false, false, false, false, false, false] rfl rfl (any_of HT_.out (by kernel_rfl)) (fun _ _ _ h => h) (Or.inl ⟨by rfl, ?_⟩) ?_ ?_
                rotate_left
                · intro w'
                  go_simp
                  with_reducible rfl
                rotate_left
                · simp only [Act.put, List.setIfInBounds_toArray, List.set_cons_zero, List.set_cons_succ, i64_w, i32_w]
                  rfl
                refine pure_ (i := 10) (N := some 32) (v := ?_) (a' := ?_) #[true, true, true, true, true, true, true, true, true, true, true, false, false, false, false, false, false, false, false, false, false, false, false, false, false, false, false, false, false, false, false, false, false, false, false, false] rfl rfl (any_of HT_.out (by kernel_rfl)) (fun _ _ _ h => h) (Or.inl ⟨by rfl, ?_⟩) ?_ ?_
                rotate_left
                · intro w'
                  go_simp
                  with_reducible rfl
                rotate_left
                · simp only [Act.put, List.setIfInBounds_toArray, List.set_cons_zero, List.set_cons_succ, i64_w, i32_w]
                  rfl
                refine pure_ (i := 11) (N := some 33) (v := ?_) (a' := ?_) #[true, true, true, true, true, true, true, true, true, true, true, true, false, false, false, false, false, false, false, false, false, false, false, false, false, false, false, false, false, false, false, false, false, false, false, false] rfl rfl (any_of HT_.out (by kernel_rfl)) (fun _ _ _ h => h) (Or.inl ⟨by rfl, ?_⟩) ?_ ?_
                rotate_left
                · intro w'
                  go_simp
                  with_reducible rfl
                rotate_left
                · simp only [Act.put, List.setIfInBounds_toArray, List.set_cons_zero, List.set_cons_succ, i64_w, i32_w]
                  rfl
                refine pure_ (i := 12) (N := some 34) (v := ?_) (a' := ?_) #[true, true, true, true, true, true, true, true, true, true, true, true, true, false, false, false, false, false, false, false, false, false, false, false, false, false, false, false, false, false, false, false, false, false, false, false] rfl rfl (any_of HT_.out (by kernel_rfl)) (fun _ _ _ h => h) (Or.inl ⟨by rfl, ?_⟩) ?_ ?_
                rotate_left
                · intro w'
                  go_simp
                  with_reducible rfl
                rotate_left
                · simp only [Act.put, List.setIfInBounds_toArray, List.set_cons_zero, List.set_cons_succ, i64_w, i32_w]
                  rfl
                refine pure_ (i := 13) (N := some 35) (v := ?_) (a' := ?_) #[true, true, true, true, true, true, true, true, true, true, true, true, true, true, false, false, false, false, false, false, false, false, false, false, false, false, false, false, false, false, false, false, false, false, false, false] rfl rfl (any_of HT_.out (by kernel_rfl)) (fun _ _ _ h => h) (Or.inl ⟨by rfl, ?_⟩) ?_ ?_
                rotate_left
                · intro w'
                  go_simp
                  with_reducible rfl
                rotate_left
                · simp only [Act.put, List.setIfInBounds_toArray, List.set_cons_zero, List.set_cons_succ, i64_w, i32_w]
                  rfl
                refine pure_ (i := 14) (N := some 36) (v := ?_) (a' := ?_) #[true, true, true, true, true, true, true, true, true, true, true, true, true, true, true, false, false, false, false, false, false, false, false, false, false, false, false, false, false, false, false, false, false, false, false, false] rfl rfl (any_of HT_.out (by kernel_rfl)) (fun _ _ _ h => h) (Or.inl ⟨by rfl, ?_⟩) ?_ ?_
                rotate_left
                · intro w'
                  go_simp
                  with_reducible rfl
                rotate_left
                · simp only [Act.put, List.setIfInBounds_toArray, List.set_cons_zero, List.set_cons_succ, i64_w, i32_w]
                  rfl
                refine pure_ (i := 15) (N := some 37) (v := ?_) (a' := ?_) #[true, true, true, true, true, true, true, true, true, true, true, true, true, true, true, true, false, false, false, false, false, false, false, false, false, false, false, false, false, false, false, false, false, false, false, false] rfl rfl (any_of HT_.out (by kernel_rfl)) (fun _ _ _ h => h) (Or.inl ⟨by rfl, ?_⟩) ?_ ?_
                rotate_left
                · intro w'
                  go_simp
                  with_reducible rfl
                rotate_left
                · simp only [Act.put, List.setIfInBounds_toArray, List.set_cons_zero, List.set_cons_succ, i64_w, i32_w]
                  rfl
                refine pure_ (i := 16) (N := some 38) (v := ?_) (a' := ?_) #[true, true, true, true, true, true, true, true, true, true, true, true, true, true, true, true, true, false, false, false, false, false, false, false, false, false, false, false, false, false, false, false, false, false, false, false] rfl rfl (any_of HT_.out (by kernel_rfl)) (fun _ _ _ h => h) (Or.inl ⟨by rfl, ?_⟩) ?_ ?_
                rotate_left
                · intro w'
                  go_simp
                  with_reducible rfl
                rotate_left
                · simp only [Act.put, List.setIfInBounds_toArray, List.set_cons_zero, List.set_cons_succ, i64_w, i32_w]
                  rfl
                refine pure_ (i := 17) (N := some 39) (v := ?_) (a' := ?_) #[true, true, true, true, true, true, true, true, true, true, true, true, true, true, true, true, true, true, false, false, false, false, false, false, false, false, false, false, false, false, false, false, false, false, false, false] rfl rfl (any_of HT_.out (by kernel_rfl)) (fun _ _ _ h => h) (Or.inl ⟨by rfl, ?_⟩) ?_ ?_
                rotate_left
                · intro w'
                  go_simp
                  with_reducible rfl
                rotate_left
                · simp only [Act.put, List.setIfInBounds_toArray, List.set_cons_zero, List.set_cons_succ, i64_w, i32_w]
                  rfl
                refine pure_ (i := 18) (N := some 40) (v := ?_) (a' := ?_) #[true, true, true, true, true, true, true, true, true, true, true, true, true, true, true, true, true, true, true, false, false, false, false, false, false, false, false, false, false, false, false, false, false, false, false, false] rfl rfl (any_of HT_.out (by kernel_rfl)) (fun _ _ _ h => h) (Or.inl ⟨by rfl, ?_⟩) ?_ ?_
                rotate_left
                · intro w'
                  go_simp
                  with_reducible rfl
                rotate_left
                · simp only [Act.put, List.setIfInBounds_toArray, List.set_cons_zero, List.set_cons_succ, i64_w, i32_w]
                  rfl
                refine pure_ (i := 19) (N := some 41) (v := ?_) (a' := ?_) #[true, true, true, true, true, true, true, true, true, true, true, true, true, true, true, true, true, true, true, true, false, false, false, false, false, false, false, false, false, false, false, false, false, false, false, false] rfl rfl (any_of HT_.out (by kernel_rfl)) (fun _ _ _ h => h) (Or.inl ⟨by rfl, ?_⟩) ?_ ?_
                rotate_left
                · intro w'
                  go_simp
                  with_reducible rfl
                rotate_left
                · simp only [Act.put, List.setIfInBounds_toArray, List.set_cons_zero, List.set_cons_succ, i64_w, i32_w]
                  rfl
                refine pure_ (i := 20) (N := some 42) (v := ?_) (a' := ?_) #[true, true, true, true, true, true, true, true, true, true, true, true, true, true, true, true, true, true, true, true, true, false, false, false, false, false, false, false, false, false, false, false, false, false, false, false] rfl rfl (any_of HT_.out (by kernel_rfl)) (fun _ _ _ h => h) (Or.inl ⟨by rfl, ?_⟩) ?_ ?_
                rotate_left
                · intro w'
                  go_simp
                  with_reducible rfl
                rotate_left
                · simp only [Act.put, List.setIfInBounds_toArray, List.set_cons_zero, List.set_cons_succ, i64_w, i32_w]
                  rfl
                refine pure_ (i := 22) (N := some 44) (v := ?_) (a' := ?_) #[true, true, true, true, true, true, true, true, true, true, true, true, true, true, true, true, true, true, true, true, true, false, true, false, false, false, false, false, false, false, false, false, false, false, false, false] rfl rfl (any_of HT_.out (by kernel_rfl)) (fun _ _ _ h => h) (Or.inl ⟨by rfl, ?_⟩) ?_ ?_
                rotate_left
                · intro w'
                  go_simp
                  with_reducible rfl
                rotate_left
                · simp only [Act.put, List.setIfInBounds_toArray, List.set_cons_zero, List.set_cons_succ, i64_w, i32_w]
                  rfl
                refine pure_ (i := 23) (N := some 45) (v := ?_) (a' := ?_) #[true, true, true, true, true, true, true, true, true, true, true, true, true, true, true, true, true, true, true, true, true, false, true, true, false, false, false, false, false, false, false, false, false, false, false, false] rfl rfl (any_of HT_.out (by kernel_rfl)) (fun _ _ _ h => h) (Or.inl ⟨by rfl, ?_⟩) ?_ ?_
                rotate_left
                · intro w'
                  go_simp
                  with_reducible rfl
                rotate_left
                · simp only [Act.put, List.setIfInBounds_toArray, List.set_cons_zero, List.set_cons_succ, i64_w, i32_w]
                  rfl
                refine pure_ (i := 25) (N := some 47) (v := ?_) (a' := ?_) #[true, true, true, true, true, true, true, true, true, true, true, true, true, true, true, true, true, true, true, true, true, false, true, true, false, true, false, false, false, false, false, false, false, false, false, false] rfl rfl (any_of HT_.out (by kernel_rfl)) (fun _ _ _ h => h) (Or.inl ⟨by rfl, ?_⟩) ?_ ?_
                rotate_left
                · intro w'
                  go_simp
                  with_reducible rfl
                rotate_left
                · simp only [Act.put, List.setIfInBounds_toArray, List.set_cons_zero, List.set_cons_succ, i64_w, i32_w]
                  rfl
                refine take_ (i := 21) (N := some 43) (v := ?_) (a' := ?_) #[true, true, true, true, true, true, true, true, true, true, true, true, true, true, true, true, true, true, true, true, true, true, true, true, false, true, false, false, false, false, false, false, false, false, false, false] rfl rfl (take_ofW HT_.out HW_.out (by kernel_rfl)) (fun _ _ _ h => h) (Or.inl ⟨by rfl, ?_⟩) hHeld ?_ ?_
                rotate_left
                · rintro w' ⟨s0, s1, s2, s3, s4, s5⟩
                  go_simp
                  with_reducible rfl
                rotate_left
                · simp only [Act.put, List.setIfInBounds_toArray, List.set_cons_zero, List.set_cons_succ, i64_w, i32_w]
                  rfl
                refine one_ (i := 24) (N := some 46) #[true, true, true, true, true, true, true, true, true, true, true, true, true, true, true, true, true, true, true, true, true, true, true, true, true, true, false, false, false, false, false, false, false, false, false, false] rfl rfl (one_of HT_.out (by kernel_rfl)) (by decide) (fun K hK => ?_)
                refine goes_ Try.func30 (by kernel_rfl) rfl #[.agg #[.int .i64 t14103, .int .i64 t14104, .int .i64 t14105, .int .i64 t14106, .int .i64 t14107, .slice Ao42 t14108.length co42], .int .i64 (wrap64 (t14112 + 65536))] (by rfl) rfl rfl (by (try simp only [List.map_toArray, List.map_cons, List.map_nil]); first | done | rfl | (simp only [List.length_drop, List.length_take]; rfl)) ?_
                with_reducible refine (conf_Wire.calls t14103 t14104 t14105 t14106 t14107 _ _ t14108 (wrap64 (t14112 + 65536)) t14117 _ ?side1 ?side2 A32.out).mono ?_
                (case side1 => repeat (first | exact (Kd.R_reads' HO14110.out).2.2 | (with_reducible refine Kd.C_alloc ?_ _) | (with_reducible refine Kd.C_drewN ?_ _) | (with_reducible refine Kd.C_drew ?_)))
                (case side2 => exact (Kd.R_reads' HO14110.out).2.1)
                rintro e w48 ⟨rfl, hb⟩
                refine ⟨_, rfl, ?_⟩
                have n0_ := Aside0.mk (Kd.R_below (by (with_reducible repeat (first | apply Kd.R_alloc | apply Kd.R_drewN | apply Kd.R_drew)); exact HO14110.out) hb)
                have n1_ := Aside0.mk (blk_below (g := gb14101) (o := .cells #[.int .i64 a0_0, .int .i64 a0_1, .int .i64 a0_2, .int .i64 a0_3, .int .i64 a0_4, .slice A0_5 l0_5.length c0_5] 35 (0, 0)) (by (with_reducible repeat (first | refine blk_drewN ?_ _ | refine blk_drew ?_ | refine blk_alloc ?_ _)); exact BK14101.out) hb)
                have n2_ := Aside0.mk (blk_below (g := gb14111) (o := .cells #[.int .i64 t14103, .int .i64 t14104, .int .i64 t14105, .int .i64 t14106, .int .i64 t14107, .slice Ao42 t14108.length co42] 35 (0, 0)) (by (with_reducible repeat (first | refine blk_drewN ?_ _ | refine blk_drew ?_ | refine blk_alloc ?_ _)); exact BK14111.out) hb)
                have n3_ := Aside0.mk (below_step (by repeat (first | (with_reducible first | exact HB.out | apply below_alloc | apply pw_below_drewN | apply below_drew1 | refine below_set ?_ GE14101.out | refine below_set ?_ GE14111.out) | exact HB.out)) hb)
                clear HO14110
                clear BK14101
                clear BK14111
                clear HB
                have HO14110 := n0_
                have BK14101 := n1_
                have BK14111 := n2_
                have HB := n3_
                clear n0_ n1_ n2_ n3_
                (try clear hb)
                (try clear hb2)
                (try clear hk)
                (try clear hi)
                refine hK.out _ _ ⟨(blk_cell BK14111.out 0).trans rfl, (blk_cell BK14111.out 1).trans rfl, (blk_cell BK14111.out 2).trans rfl, (blk_cell BK14111.out 3).trans rfl, (blk_cell BK14111.out 4).trans rfl, (blk_cell BK14111.out 5).trans rfl⟩ (fun hHeld => ?_)
                clear hK K
                refine norm_ (a' := ?_) ?_ ?_
                rotate_left
                · show Act.put _ (some 46) _ = _
                  simp only [Act.put, List.setIfInBounds_toArray, List.set_cons_zero, List.set_cons_succ, i64_w, i32_w]
                  rfl
                refine pure_ (i := 26) (N := some 48) (v := ?_) (a' := ?_) #[true, true, true, true, true, true, true, true, true, true, true, true, true, true, true, true, true, true, true, true, true, true, true, true, true, true, true, false, false, false, false, false, false, false, false, false] rfl rfl (any_of HT_.out (by kernel_rfl)) (fun _ _ _ h => h) (Or.inl ⟨by rfl, ?_⟩) ?_ ?_
                rotate_left
                · intro w'
                  go_simp
                  with_reducible rfl
                rotate_left
                · simp only [Act.put, List.setIfInBounds_toArray, List.set_cons_zero, List.set_cons_succ, i64_w, i32_w]
                  rfl
                refine pure_ (i := 27) (N := some 49) (v := ?_) (a' := ?_) #[true, true, true, true, true, true, true, true, true, true, true, true, true, true, true, true, true, true, true, true, true, true, true, true, true, true, true, true, false, false, false, false, false, false, false, false] rfl rfl (any_of HT_.out (by kernel_rfl)) (fun _ _ _ h => h) (Or.inl ⟨by rfl, ?_⟩) ?_ ?_
                rotate_left
                · intro w'
                  go_simp
                  with_reducible rfl
                rotate_left
                · simp only [Act.put, List.setIfInBounds_toArray, List.set_cons_zero, List.set_cons_succ, i64_w, i32_w]
                  rfl
                refine pure_ (i := 28) (N := some 50) (v := ?_) (a' := ?_) #[true, true, true, true, true, true, true, true, true, true, true, true, true, true, true, true, true, true, true, true, true, true, true, true, true, true, true, true, true, false, false, false, false, false, false, false] rfl rfl (any_of HT_.out (by kernel_rfl)) (fun _ _ _ h => h) (Or.inl ⟨by rfl, ?_⟩) ?_ ?_
                rotate_left
                · intro w'
                  go_simp
                  with_reducible rfl
                rotate_left
                · simp only [Act.put, List.setIfInBounds_toArray, List.set_cons_zero, List.set_cons_succ, i64_w, i32_w]
                  rfl
                refine pure_ (i := 31) (N := some 53) (v := ?_) (a' := ?_) #[true, true, true, true, true, true, true, true, true, true, true, true, true, true, true, true, true, true, true, true, true, true, true, true, true, true, true, true, true, false, false, true, false, false, false, false] rfl rfl (any_of HT_.out (by kernel_rfl)) (fun _ _ _ h => h) (Or.inl ⟨by rfl, ?_⟩) ?_ ?_
                rotate_left
                · intro w'
                  go_simp
                  with_reducible rfl
                rotate_left
                · simp only [Act.put, List.setIfInBounds_toArray, List.set_cons_zero, List.set_cons_succ, i64_w, i32_w]
                  rfl
                refine take_ (i := 29) (N := some 51) (v := ?_) (a' := ?_) #[true, true, true, true, true, true, true, true, true, true, true, true, true, true, true, true, true, true, true, true, true, true, true, true, true, true, true, true, true, true, false, true, false, false, false, false] rfl rfl (take_ofW HT_.out HW_.out (by kernel_rfl)) (fun _ _ _ h => h) (Or.inl ⟨by rfl, ?_⟩) hHeld ?_ ?_
                rotate_left
                · rintro w' ⟨s0, s1, s2, s3, s4, s5⟩
                  go_simp
                  with_reducible rfl
                rotate_left
                · simp only [Act.put, List.setIfInBounds_toArray, List.set_cons_zero, List.set_cons_succ, i64_w, i32_w]
                  rfl
                refine take_ (i := 32) (N := some 54) (v := ?_) (a' := ?_) #[true, true, true, true, true, true, true, true, true, true, true, true, true, true, true, true, true, true, true, true, true, true, true, true, true, true, true, true, true, true, false, true, true, false, false, false] rfl rfl (take_ofW HT_.out HW_.out (by kernel_rfl)) (fun _ _ _ h => h) (Or.inl ⟨by rfl, ?_⟩) hHeld ?_ ?_
                rotate_left
                · rintro w' ⟨s0, s1, s2, s3, s4, s5⟩
                  go_simp
                  with_reducible rfl
                rotate_left
                · simp only [Act.put, List.setIfInBounds_toArray, List.set_cons_zero, List.set_cons_succ, i64_w, i32_w]
                  rfl
                refine one_ (i := 30) (N := some 52) #[true, true, true, true, true, true, true, true, true, true, true, true, true, true, true, true, true, true, true, true, true, true, true, true, true, true, true, true, true, true, true, true, true, false, false, false] rfl rfl (one_of HT_.out (by kernel_rfl)) (by decide) (fun K hK => ?_)
                refine goes_ Try.func30 (by kernel_rfl) rfl #[.agg #[.int .i64 t14103, .int .i64 t14104, .int .i64 t14105, .int .i64 t14106, .int .i64 t14107, .slice Ao42 t14108.length co42], .int .i64 0] (by rfl) rfl rfl (by (try simp only [List.map_toArray, List.map_cons, List.map_nil]); first | done | rfl | (simp only [List.length_drop, List.length_take]; rfl)) ?_
                with_reducible refine (conf_Wire.calls t14103 t14104 t14105 t14106 t14107 _ _ t14108 0 t14118 _ ?side1 ?side2 A34.out).mono ?_
                (case side1 => repeat (first | exact (Kd.R_reads' HO14110.out).2.2 | (with_reducible refine Kd.C_alloc ?_ _) | (with_reducible refine Kd.C_drewN ?_ _) | (with_reducible refine Kd.C_drew ?_)))
                (case side2 => exact (Kd.R_reads' HO14110.out).2.1)
                rintro e w49 ⟨rfl, hb⟩
                refine ⟨_, rfl, ?_⟩
                have n0_ := Aside0.mk (Kd.R_below (by (with_reducible repeat (first | apply Kd.R_alloc | apply Kd.R_drewN | apply Kd.R_drew)); exact HO14110.out) hb)
                have n1_ := Aside0.mk (blk_below (g := gb14101) (o := .cells #[.int .i64 a0_0, .int .i64 a0_1, .int .i64 a0_2, .int .i64 a0_3, .int .i64 a0_4, .slice A0_5 l0_5.length c0_5] 35 (0, 0)) (by (with_reducible repeat (first | refine blk_drewN ?_ _ | refine blk_drew ?_ | refine blk_alloc ?_ _)); exact BK14101.out) hb)
                have n2_ := Aside0.mk (blk_below (g := gb14111) (o := .cells #[.int .i64 t14103, .int .i64 t14104, .int .i64 t14105, .int .i64 t14106, .int .i64 t14107, .slice Ao42 t14108.length co42] 35 (0, 0)) (by (with_reducible repeat (first | refine blk_drewN ?_ _ | refine blk_drew ?_ | refine blk_alloc ?_ _)); exact BK14111.out) hb)
                have n3_ := Aside0.mk (below_step (by repeat (first | (with_reducible first | exact HB.out | apply below_alloc | apply pw_below_drewN | apply below_drew1 | refine below_set ?_ GE14101.out | refine below_set ?_ GE14111.out) | exact HB.out)) hb)
                clear HO14110
                clear BK14101
                clear BK14111
                clear HB
                have HO14110 := n0_
                have BK14101 := n1_
                have BK14111 := n2_
                have HB := n3_
                clear n0_ n1_ n2_ n3_
                (try clear hb)
                (try clear hb2)
                (try clear hk)
                (try clear hi)
                refine hK.out _ _ ⟨(blk_cell BK14111.out 0).trans rfl, (blk_cell BK14111.out 1).trans rfl, (blk_cell BK14111.out 2).trans rfl, (blk_cell BK14111.out 3).trans rfl, (blk_cell BK14111.out 4).trans rfl, (blk_cell BK14111.out 5).trans rfl⟩ (fun hHeld => ?_)
                clear hK K
                refine norm_ (a' := ?_) ?_ ?_
                rotate_left
                · show Act.put _ (some 52) _ = _
                  simp only [Act.put, List.setIfInBounds_toArray, List.set_cons_zero, List.set_cons_succ, i64_w, i32_w]
                  rfl
                refine pure_ (i := 33) (N := some 55) (v := ?_) (a' := ?_) #[true, true, true, true, true, true, true, true, true, true, true, true, true, true, true, true, true, true, true, true, true, true, true, true, true, true, true, true, true, true, true, true, true, true, false, false] rfl rfl (any_of HT_.out (by kernel_rfl)) (fun _ _ _ h => h) (Or.inl ⟨by rfl, ?_⟩) ?_ ?_
                rotate_left
                · intro w'
                  go_simp
                  with_reducible rfl
                rotate_left
                · simp only [Act.put, List.setIfInBounds_toArray, List.set_cons_zero, List.set_cons_succ, i64_w, i32_w]
                  rfl
                refine pure_ (i := 34) (N := some 56) (v := ?_) (a' := ?_) #[true, true, true, true, true, true, true, true, true, true, true, true, true, true, true, true, true, true, true, true, true, true, true, true, true, true, true, true, true, true, true, true, true, true, true, false] rfl rfl (any_of HT_.out (by kernel_rfl)) (fun _ _ _ h => h) (Or.inl ⟨by rfl, ?_⟩) ?_ ?_
                rotate_left
                · intro w'
                  go_simp
                  with_reducible rfl
                rotate_left
                · simp only [Act.put, List.setIfInBounds_toArray, List.set_cons_zero, List.set_cons_succ, i64_w, i32_w]
                  rfl
                refine pure_ (i := 35) (N := some 4) (v := ?_) (a' := ?_) #[true, true, true, true, true, true, true, true, true, true, true, true, true, true, true, true, true, true, true, true, true, true, true, true, true, true, true, true, true, true, true, true, true, true, true, true] rfl rfl (any_of HT_.out (by kernel_rfl)) (fun _ _ _ h => h) (Or.inl ⟨by rfl, ?_⟩) ?_ ?_
                rotate_left
                · intro w'
                  go_simp
                  with_reducible rfl
                rotate_left
                · simp only [Act.put, List.setIfInBounds_toArray, List.set_cons_zero, List.set_cons_succ, i64_w, i32_w]
                  rfl
                refine done_ (done_of HT_.out (by kernel_rfl)) ?_
                try go_wp2
                go_ret
                exact ⟨by first | rfl | (simp [errW_none, errW_some] <;> rfl) | (simp [*, errW_none, errW_some] <;> rfl), by repeat (first | (with_reducible first | exact HB.out | apply below_alloc | apply pw_below_drewN | apply below_drew1 | refine below_set ?_ GE14101.out | refine below_set ?_ GE14111.out) | exact HB.out)⟩
              · rw [if_neg c33] at H
                have c33b0 : (t14117 == t14113) = false := beq_eq_false_iff_ne.mpr c33
                have c33b1 : (t14117 != t14113) = true := bne_iff_ne.mpr c33
                exact absurd ((Option.some.inj H).trans HRT.out) (by decide)
            · rw [if_neg c31] at H
              have c31b0 : (t14114 == 0) = false := beq_eq_false_iff_ne.mpr c31
              have c31b1 : (t14114 != 0) = true := bne_iff_ne.mpr c31
              exact absurd ((Option.some.inj H).trans HRT.out) (by decide)
          · rw [if_neg c30] at H
            have c30b0 : (t14113 == 65535) = false := beq_eq_false_iff_ne.mpr c30
            have c30b1 : (t14113 != 65535) = true := bne_iff_ne.mpr c30
            exact absurd ((Option.some.inj H).trans HRT.out) (by decide)
      · rw [if_neg c10] at H
        have c10b0 : decide (t14113 ≤ 65535) = false := decide_eq_false c10
        clear c10
        exact absurd ((Option.some.inj H).trans HRT.out) (by decide)
    · rw [if_neg c9] at H
      have c9b0 : decide (0 ≤ t14113) = false := decide_eq_false c9
      clear c9
      exact absurd ((Option.some.inj H).trans HRT.out) (by decide)
  · replace c4 := Bool.eq_false_iff.mpr c4
    subst c4
    have H1 : (some false) = some r := by rw [if_neg (show ¬ (false = true) by decide)] at H; exact H
    clear H
    have H := H1
    clear H1
    exact absurd ((Option.some.inj H).trans HRT.out) (by decide)

/-- The pure statement of plaitinglaw3_ConfRounds. -/
def plaitinglaw3_ConfRounds.Pure : Prop := ∀ (a0_0 : Int) (a0_1 : Int) (a0_2 : Int) (a0_3 : Int) (a0_4 : Int) (l0_5 : List Int) (a1 : Int), ((Lit.int .i64 a0_0).wf = true) → ((Lit.int .i64 a0_1).wf = true) → ((Lit.int .i64 a0_2).wf = true) → ((Lit.int .i64 a0_3).wf = true) → ((Lit.int .i64 a0_4).wf = true) → (l0_5.length ≤ maxLen ∧ ∀ y_ ∈ l0_5, (Lit.int .i64 y_).wf = true) → ((Lit.int .i64 a1).wf = true) → ∃ k, plaitinglaw3_ConfRounds.f k a0_0 a0_1 a0_2 a0_3 a0_4 l0_5 a1 = some true
theorem plaitinglaw3_ConfRounds.walk (P : plaitinglaw3_ConfRounds.Pure) (a0_0 : Int) (a0_1 : Int) (a0_2 : Int) (a0_3 : Int) (a0_4 : Int) (A0_5 : Option Addr) (c0_5 : Nat) (l0_5 : List Int) (a1 : Int) (w : World) (q0 : (Lit.int .i64 a0_0).wf = true) (q1 : (Lit.int .i64 a0_1).wf = true) (q2 : (Lit.int .i64 a0_2).wf = true) (q3 : (Lit.int .i64 a0_3).wf = true) (q4 : (Lit.int .i64 a0_4).wf = true) (q5 : l0_5.length ≤ maxLen ∧ ∀ y_ ∈ l0_5, (Lit.int .i64 y_).wf = true) (q6 : (Lit.int .i64 a1).wf = true) (hr0_5 : Kd.C (Kd.int .i64) w A0_5 l0_5.length l0_5) (hc0_5 : l0_5.length ≤ c0_5) :
    Calls Try.prog 7 #[.agg #[.int .i64 a0_0, .int .i64 a0_1, .int .i64 a0_2, .int .i64 a0_3, .int .i64 a0_4, .slice A0_5 l0_5.length c0_5], .int .i64 a1] w fun e w' => e = .returned (.bool true) ∧ Below w.heap.size w w' := by
  obtain ⟨k, h⟩ := P a0_0 a0_1 a0_2 a0_3 a0_4 l0_5 a1 q0 q1 q2 q3 q4 q5 q6
  refine (plaitinglaw3_ConfRounds.calls k a0_0 a0_1 a0_2 a0_3 a0_4 A0_5 c0_5 l0_5 a1 true w hr0_5 hc0_5 rfl h).mono ?_
  rintro e w' ⟨rfl, hd⟩
  exact ⟨rfl, hd⟩

end Go.Proofs.Ytdkbalaphblobaa.P
