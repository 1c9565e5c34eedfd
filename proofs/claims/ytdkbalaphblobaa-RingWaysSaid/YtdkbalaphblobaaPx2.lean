/- Printed by a program of this session (myprint) out of the translation: the functions as plain Lean functions, and that the calls compute them. What counts is Lean's check. -/
import Derived.Test.YtdkbalaphblobaaPx0
import Derived.Test.YtdkbalaphblobaaPx1
namespace Go.Proofs.Ytdkbalaphblobaa.P
open Go.RowKit Go.Proofs.YtdkbalaphblobaaW.PrintWords Go.Proofs.YtdkbalaphblobaaW.PrintLast Go.Proofs.YtdkbalaphblobaaW.PrintMore
attribute [local go_sem] max2_int min2_int max_two min_two max_three min_three max_four min_four   -- for this text's walks alone
set_option linter.unusedVariables false
set_option linter.unusedSimpArgs false

/-! ### plaitinglaw4_known: function 18 -/
def plaitinglaw4_known.f  : Option (Bool) := (ring_Dist.f 7 6 0 1).bind fun t36101 => (if t36101 = 1 then ((ring_At.f 7 6 1).bind fun t36102 => (some (t36102 == 0))) else (some false))
set_option maxHeartbeats 8000000 in
set_option maxRecDepth 100000 in
theorem plaitinglaw4_known.calls  (r : Bool) (w : World) (h : plaitinglaw4_known.f  = some r) :
    Calls Try.prog 18 #[] w fun e w' => e = .returned (.bool r) ∧ Drawn0 w w' := by
  have H : ((ring_Dist.f 7 6 0 1).bind fun t36101 => (if t36101 = 1 then ((ring_At.f 7 6 1).bind fun t36102 => (some (t36102 == 0))) else (some false))) = some r := h
  clear h
  replace H := Option.bind_eq_some_iff.mp H
  obtain ⟨t36101, A10, H⟩ := H
  replace H : (if t36101 = 1 then ((ring_At.f 7 6 1).bind fun t36102 => (some (t36102 == 0))) else (some false)) = some r := H
  have A1 := Aside0.mk A10
  clear A10
  by_cases c2 : t36101 = 1
  · rw [if_pos c2] at H
    have c2b0 : (t36101 == 1) = true := beq_iff_eq.mpr c2
    have c2b1 : (t36101 != 1) = false := bne_eq_false_iff_eq.mpr c2
    clear c2
    replace H := Option.bind_eq_some_iff.mp H
    obtain ⟨t36102, A30, H⟩ := H
    replace H : (some (t36102 == 0)) = some r := H
    have A3 := Aside0.mk A30
    clear A30
    obtain rfl := Option.some.inj H
    go_enter Try.func18, Try.ntmps18
    go_wp2_with (first | ((with_reducible refine gate_callee (f := 20) rfl ?_); refine goesL_ (some 1) rfl rfl Try.func20 (by kernel_rfl) rfl #[.int .i64 7, .int .i64 6, .int .i64 0, .int .i64 1] rfl (by (try simp only [List.map_toArray, List.map_cons, List.map_nil]); first | done | rfl | (simp only [List.length_drop, List.length_take]; rfl)) ?_; (with_reducible refine (ring_Dist.calls 7 6 0 1 t36101 _ A1.out).mono ?_); rintro e w' ⟨rfl, ⟨nd, rfl⟩⟩; refine ⟨_, rfl, ?_⟩) | (go_at_call 21; (with_reducible refine (ring_At.calls 7 6 1 t36102 _ A3.out).mono ?_); rintro e w' ⟨rfl, ⟨nd, rfl⟩⟩))
    go_ret
    exact ⟨by first | rfl | (simp; done) | (simp [*]; done), by repeat (first | exact Drawn0.refl _ | apply Drawn0.step)⟩
  · rw [if_neg c2] at H
    have c2b0 : (t36101 == 1) = false := beq_eq_false_iff_ne.mpr c2
    have c2b1 : (t36101 != 1) = true := bne_iff_ne.mpr c2
    obtain rfl := Option.some.inj H
    go_enter Try.func18, Try.ntmps18
    go_wp2_with (first | ((with_reducible refine gate_callee (f := 20) rfl ?_); refine goesL_ (some 1) rfl rfl Try.func20 (by kernel_rfl) rfl #[.int .i64 7, .int .i64 6, .int .i64 0, .int .i64 1] rfl (by (try simp only [List.map_toArray, List.map_cons, List.map_nil]); first | done | rfl | (simp only [List.length_drop, List.length_take]; rfl)) ?_; (with_reducible refine (ring_Dist.calls 7 6 0 1 t36101 _ A1.out).mono ?_); rintro e w' ⟨rfl, ⟨nd, rfl⟩⟩; refine ⟨_, rfl, ?_⟩))
    go_ret
    exact ⟨by first | rfl | (simp; done) | (simp [*]; done), by repeat (first | exact Drawn0.refl _ | apply Drawn0.step)⟩

/-! ### plaitinglaw4_within: function 19 -/
def plaitinglaw4_within.f (a0 : Int) (a1 : Int) : Option (Int) := if a1 = 0 then (none) else (if (Int.tmod a0 a1) < 0 then (some (wrap64 ((Int.tmod a0 a1) + a1))) else (some (Int.tmod a0 a1)))
set_option maxHeartbeats 8000000 in
set_option maxRecDepth 100000 in
theorem plaitinglaw4_within.calls (a0 : Int) (a1 : Int) (r : Int) (w : World) (h : plaitinglaw4_within.f a0 a1 = some r) :
    Calls Try.prog 19 #[.int .i64 a0, .int .i64 a1] w fun e w' => e = .returned (.int .i64 r) ∧ Drawn0 w w' := by
  have H : (if a1 = 0 then (none) else (if (Int.tmod a0 a1) < 0 then (some (wrap64 ((Int.tmod a0 a1) + a1))) else (some (Int.tmod a0 a1)))) = some r := h
  clear h
  by_cases c3 : a1 = 0
  · rw [if_pos c3] at H
    exact absurd H (by simp)
  · rw [if_neg c3] at H
    have c3b0 : (a1 == 0) = false := beq_eq_false_iff_ne.mpr c3
    have c3b1 : (a1 != 0) = true := bne_iff_ne.mpr c3
    by_cases c4 : (Int.tmod a0 a1) < 0
    · rw [if_pos c4] at H
      have c4b0 : decide ((Int.tmod a0 a1) < 0) = true := decide_eq_true c4
      clear c4
      obtain rfl := Option.some.inj H
      go_enter Try.func19, Try.ntmps19
      go_wp2
      go_ret
      exact ⟨by first | rfl | (simp; done) | (simp [*]; done), by repeat (first | exact Drawn0.refl _ | apply Drawn0.step)⟩
    · rw [if_neg c4] at H
      have c4b0 : decide ((Int.tmod a0 a1) < 0) = false := decide_eq_false c4
      clear c4
      obtain rfl := Option.some.inj H
      go_enter Try.func19, Try.ntmps19
      go_wp2
      go_ret
      exact ⟨by first | rfl | (simp; done) | (simp [*]; done), by repeat (first | exact Drawn0.refl _ | apply Drawn0.step)⟩

end Go.Proofs.Ytdkbalaphblobaa.P
