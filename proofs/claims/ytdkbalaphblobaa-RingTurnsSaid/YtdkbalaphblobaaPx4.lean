/- Printed by a program of this session (myprint) out of the translation: the functions as plain Lean functions, and that the calls compute them. What counts is Lean's check. -/
import Derived.Test.YtdkbalaphblobaaPx0
import Derived.Test.YtdkbalaphblobaaPx1
import Derived.Test.YtdkbalaphblobaaPx2
namespace Go.Proofs.Ytdkbalaphblobaa.P
open Go.RowKit Go.Proofs.YtdkbalaphblobaaW.PrintWords Go.Proofs.YtdkbalaphblobaaW.PrintLast Go.Proofs.YtdkbalaphblobaaW.PrintMore
attribute [local go_sem] max2_int min2_int max_two min_two max_three min_three max_four min_four   -- for this text's walks alone
set_option linter.unusedVariables false
set_option linter.unusedSimpArgs false

/-! ### plaitinglaw4_RingTurns: function 4 -/
def plaitinglaw4_RingTurns.f (a0 : Int) (a1 : Int) (a2 : Int) (a3 : Int) : Option (Bool) := (plaitinglaw4_known.f).bind fun t8101 => (if t8101 = true then ((plaitinglaw4_within.f a0 7).bind fun t8102 => ((plaitinglaw4_within.f a1 (wrap64 (6 + t8102))).bind fun t8103 => ((plaitinglaw4_within.f a2 2000).bind fun t8104 => ((plaitinglaw4_within.f a3 2000).bind fun t8105 => ((ring_At.f (wrap64 (6 + t8102)) t8103 (wrap64 (t8104 - 1000))).bind fun t8106 => ((ring_At.f (wrap64 (6 + t8102)) t8106 (wrap64 (t8105 - 1000))).bind fun t8107 => ((ring_At.f (wrap64 (6 + t8102)) t8103 (wrap64 ((wrap64 (t8104 - 1000)) + (wrap64 (t8105 - 1000))))).bind fun t8108 => (if t8107 = t8108 then ((ring_At.f (wrap64 (6 + t8102)) t8103 (wrap64 (6 + t8102))).bind fun t8109 => (if t8109 = t8103 then ((ring_At.f (wrap64 (6 + t8102)) t8103 (wrap64 (t8104 - 1000))).bind fun t8110 => ((ring_At.f (wrap64 (6 + t8102)) t8110 (wrap64 (-(wrap64 (t8104 - 1000))))).bind fun t8111 => (some (t8111 == t8103)))) else (some false))) else (some false))))))))) else (some false))
set_option maxHeartbeats 8000000 in
set_option maxRecDepth 100000 in
theorem plaitinglaw4_RingTurns.calls (a0 : Int) (a1 : Int) (a2 : Int) (a3 : Int) (r : Bool) (w : World) (hrt : r = true) (h : plaitinglaw4_RingTurns.f a0 a1 a2 a3 = some r) :
    Calls Try.prog 4 #[.int .i64 a0, .int .i64 a1, .int .i64 a2, .int .i64 a3] w fun e w' => e = .returned (.bool r) ∧ Drawn0 w w' := by
  have HRT := Aside0.mk hrt
  clear hrt
  have H : ((plaitinglaw4_known.f).bind fun t8101 => (if t8101 = true then ((plaitinglaw4_within.f a0 7).bind fun t8102 => ((plaitinglaw4_within.f a1 (wrap64 (6 + t8102))).bind fun t8103 => ((plaitinglaw4_within.f a2 2000).bind fun t8104 => ((plaitinglaw4_within.f a3 2000).bind fun t8105 => ((ring_At.f (wrap64 (6 + t8102)) t8103 (wrap64 (t8104 - 1000))).bind fun t8106 => ((ring_At.f (wrap64 (6 + t8102)) t8106 (wrap64 (t8105 - 1000))).bind fun t8107 => ((ring_At.f (wrap64 (6 + t8102)) t8103 (wrap64 ((wrap64 (t8104 - 1000)) + (wrap64 (t8105 - 1000))))).bind fun t8108 => (if t8107 = t8108 then ((ring_At.f (wrap64 (6 + t8102)) t8103 (wrap64 (6 + t8102))).bind fun t8109 => (if t8109 = t8103 then ((ring_At.f (wrap64 (6 + t8102)) t8103 (wrap64 (t8104 - 1000))).bind fun t8110 => ((ring_At.f (wrap64 (6 + t8102)) t8110 (wrap64 (-(wrap64 (t8104 - 1000))))).bind fun t8111 => (some (t8111 == t8103)))) else (some false))) else (some false))))))))) else (some false))) = some r := h
  clear h
  replace H := Option.bind_eq_some_iff.mp H
  obtain ⟨t8101, A50, H⟩ := H
  replace H : (if t8101 = true then ((plaitinglaw4_within.f a0 7).bind fun t8102 => ((plaitinglaw4_within.f a1 (wrap64 (6 + t8102))).bind fun t8103 => ((plaitinglaw4_within.f a2 2000).bind fun t8104 => ((plaitinglaw4_within.f a3 2000).bind fun t8105 => ((ring_At.f (wrap64 (6 + t8102)) t8103 (wrap64 (t8104 - 1000))).bind fun t8106 => ((ring_At.f (wrap64 (6 + t8102)) t8106 (wrap64 (t8105 - 1000))).bind fun t8107 => ((ring_At.f (wrap64 (6 + t8102)) t8103 (wrap64 ((wrap64 (t8104 - 1000)) + (wrap64 (t8105 - 1000))))).bind fun t8108 => (if t8107 = t8108 then ((ring_At.f (wrap64 (6 + t8102)) t8103 (wrap64 (6 + t8102))).bind fun t8109 => (if t8109 = t8103 then ((ring_At.f (wrap64 (6 + t8102)) t8103 (wrap64 (t8104 - 1000))).bind fun t8110 => ((ring_At.f (wrap64 (6 + t8102)) t8110 (wrap64 (-(wrap64 (t8104 - 1000))))).bind fun t8111 => (some (t8111 == t8103)))) else (some false))) else (some false))))))))) else (some false)) = some r := H
  have A5 := Aside0.mk A50
  clear A50
  by_cases c6 : t8101 = true
  · subst c6
    have H1 : ((plaitinglaw4_within.f a0 7).bind fun t8102 => ((plaitinglaw4_within.f a1 (wrap64 (6 + t8102))).bind fun t8103 => ((plaitinglaw4_within.f a2 2000).bind fun t8104 => ((plaitinglaw4_within.f a3 2000).bind fun t8105 => ((ring_At.f (wrap64 (6 + t8102)) t8103 (wrap64 (t8104 - 1000))).bind fun t8106 => ((ring_At.f (wrap64 (6 + t8102)) t8106 (wrap64 (t8105 - 1000))).bind fun t8107 => ((ring_At.f (wrap64 (6 + t8102)) t8103 (wrap64 ((wrap64 (t8104 - 1000)) + (wrap64 (t8105 - 1000))))).bind fun t8108 => (if t8107 = t8108 then ((ring_At.f (wrap64 (6 + t8102)) t8103 (wrap64 (6 + t8102))).bind fun t8109 => (if t8109 = t8103 then ((ring_At.f (wrap64 (6 + t8102)) t8103 (wrap64 (t8104 - 1000))).bind fun t8110 => ((ring_At.f (wrap64 (6 + t8102)) t8110 (wrap64 (-(wrap64 (t8104 - 1000))))).bind fun t8111 => (some (t8111 == t8103)))) else (some false))) else (some false))))))))) = some r := by rw [if_pos rfl] at H; exact H
    clear H
    have H := H1
    clear H1
    replace H := Option.bind_eq_some_iff.mp H
    obtain ⟨t8102, A70, H⟩ := H
    replace H : ((plaitinglaw4_within.f a1 (wrap64 (6 + t8102))).bind fun t8103 => ((plaitinglaw4_within.f a2 2000).bind fun t8104 => ((plaitinglaw4_within.f a3 2000).bind fun t8105 => ((ring_At.f (wrap64 (6 + t8102)) t8103 (wrap64 (t8104 - 1000))).bind fun t8106 => ((ring_At.f (wrap64 (6 + t8102)) t8106 (wrap64 (t8105 - 1000))).bind fun t8107 => ((ring_At.f (wrap64 (6 + t8102)) t8103 (wrap64 ((wrap64 (t8104 - 1000)) + (wrap64 (t8105 - 1000))))).bind fun t8108 => (if t8107 = t8108 then ((ring_At.f (wrap64 (6 + t8102)) t8103 (wrap64 (6 + t8102))).bind fun t8109 => (if t8109 = t8103 then ((ring_At.f (wrap64 (6 + t8102)) t8103 (wrap64 (t8104 - 1000))).bind fun t8110 => ((ring_At.f (wrap64 (6 + t8102)) t8110 (wrap64 (-(wrap64 (t8104 - 1000))))).bind fun t8111 => (some (t8111 == t8103)))) else (some false))) else (some false)))))))) = some r := H
    have A7 := Aside0.mk A70
    clear A70
    replace H := Option.bind_eq_some_iff.mp H
    obtain ⟨t8103, A80, H⟩ := H
    replace H : ((plaitinglaw4_within.f a2 2000).bind fun t8104 => ((plaitinglaw4_within.f a3 2000).bind fun t8105 => ((ring_At.f (wrap64 (6 + t8102)) t8103 (wrap64 (t8104 - 1000))).bind fun t8106 => ((ring_At.f (wrap64 (6 + t8102)) t8106 (wrap64 (t8105 - 1000))).bind fun t8107 => ((ring_At.f (wrap64 (6 + t8102)) t8103 (wrap64 ((wrap64 (t8104 - 1000)) + (wrap64 (t8105 - 1000))))).bind fun t8108 => (if t8107 = t8108 then ((ring_At.f (wrap64 (6 + t8102)) t8103 (wrap64 (6 + t8102))).bind fun t8109 => (if t8109 = t8103 then ((ring_At.f (wrap64 (6 + t8102)) t8103 (wrap64 (t8104 - 1000))).bind fun t8110 => ((ring_At.f (wrap64 (6 + t8102)) t8110 (wrap64 (-(wrap64 (t8104 - 1000))))).bind fun t8111 => (some (t8111 == t8103)))) else (some false))) else (some false))))))) = some r := H
    have A8 := Aside0.mk A80
    clear A80
    replace H := Option.bind_eq_some_iff.mp H
    obtain ⟨t8104, A90, H⟩ := H
    replace H : ((plaitinglaw4_within.f a3 2000).bind fun t8105 => ((ring_At.f (wrap64 (6 + t8102)) t8103 (wrap64 (t8104 - 1000))).bind fun t8106 => ((ring_At.f (wrap64 (6 + t8102)) t8106 (wrap64 (t8105 - 1000))).bind fun t8107 => ((ring_At.f (wrap64 (6 + t8102)) t8103 (wrap64 ((wrap64 (t8104 - 1000)) + (wrap64 (t8105 - 1000))))).bind fun t8108 => (if t8107 = t8108 then ((ring_At.f (wrap64 (6 + t8102)) t8103 (wrap64 (6 + t8102))).bind fun t8109 => (if t8109 = t8103 then ((ring_At.f (wrap64 (6 + t8102)) t8103 (wrap64 (t8104 - 1000))).bind fun t8110 => ((ring_At.f (wrap64 (6 + t8102)) t8110 (wrap64 (-(wrap64 (t8104 - 1000))))).bind fun t8111 => (some (t8111 == t8103)))) else (some false))) else (some false)))))) = some r := H
    have A9 := Aside0.mk A90
    clear A90
    replace H := Option.bind_eq_some_iff.mp H
    obtain ⟨t8105, A100, H⟩ := H
    replace H : ((ring_At.f (wrap64 (6 + t8102)) t8103 (wrap64 (t8104 - 1000))).bind fun t8106 => ((ring_At.f (wrap64 (6 + t8102)) t8106 (wrap64 (t8105 - 1000))).bind fun t8107 => ((ring_At.f (wrap64 (6 + t8102)) t8103 (wrap64 ((wrap64 (t8104 - 1000)) + (wrap64 (t8105 - 1000))))).bind fun t8108 => (if t8107 = t8108 then ((ring_At.f (wrap64 (6 + t8102)) t8103 (wrap64 (6 + t8102))).bind fun t8109 => (if t8109 = t8103 then ((ring_At.f (wrap64 (6 + t8102)) t8103 (wrap64 (t8104 - 1000))).bind fun t8110 => ((ring_At.f (wrap64 (6 + t8102)) t8110 (wrap64 (-(wrap64 (t8104 - 1000))))).bind fun t8111 => (some (t8111 == t8103)))) else (some false))) else (some false))))) = some r := H
    have A10 := Aside0.mk A100
    clear A100
    replace H := Option.bind_eq_some_iff.mp H
    obtain ⟨t8106, A110, H⟩ := H
    replace H : ((ring_At.f (wrap64 (6 + t8102)) t8106 (wrap64 (t8105 - 1000))).bind fun t8107 => ((ring_At.f (wrap64 (6 + t8102)) t8103 (wrap64 ((wrap64 (t8104 - 1000)) + (wrap64 (t8105 - 1000))))).bind fun t8108 => (if t8107 = t8108 then ((ring_At.f (wrap64 (6 + t8102)) t8103 (wrap64 (6 + t8102))).bind fun t8109 => (if t8109 = t8103 then ((ring_At.f (wrap64 (6 + t8102)) t8103 (wrap64 (t8104 - 1000))).bind fun t8110 => ((ring_At.f (wrap64 (6 + t8102)) t8110 (wrap64 (-(wrap64 (t8104 - 1000))))).bind fun t8111 => (some (t8111 == t8103)))) else (some false))) else (some false)))) = some r := H
    have A11 := Aside0.mk A110
    clear A110
    replace H := Option.bind_eq_some_iff.mp H
    obtain ⟨t8107, A120, H⟩ := H
    replace H : ((ring_At.f (wrap64 (6 + t8102)) t8103 (wrap64 ((wrap64 (t8104 - 1000)) + (wrap64 (t8105 - 1000))))).bind fun t8108 => (if t8107 = t8108 then ((ring_At.f (wrap64 (6 + t8102)) t8103 (wrap64 (6 + t8102))).bind fun t8109 => (if t8109 = t8103 then ((ring_At.f (wrap64 (6 + t8102)) t8103 (wrap64 (t8104 - 1000))).bind fun t8110 => ((ring_At.f (wrap64 (6 + t8102)) t8110 (wrap64 (-(wrap64 (t8104 - 1000))))).bind fun t8111 => (some (t8111 == t8103)))) else (some false))) else (some false))) = some r := H
    have A12 := Aside0.mk A120
    clear A120
    replace H := Option.bind_eq_some_iff.mp H
    obtain ⟨t8108, A130, H⟩ := H
    replace H : (if t8107 = t8108 then ((ring_At.f (wrap64 (6 + t8102)) t8103 (wrap64 (6 + t8102))).bind fun t8109 => (if t8109 = t8103 then ((ring_At.f (wrap64 (6 + t8102)) t8103 (wrap64 (t8104 - 1000))).bind fun t8110 => ((ring_At.f (wrap64 (6 + t8102)) t8110 (wrap64 (-(wrap64 (t8104 - 1000))))).bind fun t8111 => (some (t8111 == t8103)))) else (some false))) else (some false)) = some r := H
    have A13 := Aside0.mk A130
    clear A130
    by_cases c14 : t8107 = t8108
    · rw [if_pos c14] at H
      have c14b0 : (t8107 == t8108) = true := beq_iff_eq.mpr c14
      have c14b1 : (t8107 != t8108) = false := bne_eq_false_iff_eq.mpr c14
      clear c14
      replace H := Option.bind_eq_some_iff.mp H
      obtain ⟨t8109, A150, H⟩ := H
      replace H : (if t8109 = t8103 then ((ring_At.f (wrap64 (6 + t8102)) t8103 (wrap64 (t8104 - 1000))).bind fun t8110 => ((ring_At.f (wrap64 (6 + t8102)) t8110 (wrap64 (-(wrap64 (t8104 - 1000))))).bind fun t8111 => (some (t8111 == t8103)))) else (some false)) = some r := H
      have A15 := Aside0.mk A150
      clear A150
      by_cases c16 : t8109 = t8103
      · rw [if_pos c16] at H
        have c16b0 : (t8109 == t8103) = true := beq_iff_eq.mpr c16
        have c16b1 : (t8109 != t8103) = false := bne_eq_false_iff_eq.mpr c16
        clear c16
        replace H := Option.bind_eq_some_iff.mp H
        obtain ⟨t8110, A170, H⟩ := H
        replace H : ((ring_At.f (wrap64 (6 + t8102)) t8110 (wrap64 (-(wrap64 (t8104 - 1000))))).bind fun t8111 => (some (t8111 == t8103))) = some r := H
        have A17 := Aside0.mk A170
        clear A170
        replace H := Option.bind_eq_some_iff.mp H
        obtain ⟨t8111, A180, H⟩ := H
        replace H : (some (t8111 == t8103)) = some r := H
        have A18 := Aside0.mk A180
        clear A180
        obtain rfl := Option.some.inj H
        go_enter Try.func4, Try.ntmps4
        go_wp2_with (first | ((with_reducible refine gate_callee (f := 18) rfl ?_); refine goesL_ (some 9) rfl rfl Try.func18 (by kernel_rfl) rfl #[] rfl (by (try simp only [List.map_toArray, List.map_cons, List.map_nil]); first | done | rfl | (simp only [List.length_drop, List.length_take]; rfl)) ?_; (with_reducible refine (plaitinglaw4_known.calls  true _ A5.out).mono ?_); rintro e w' ⟨rfl, ⟨nd, rfl⟩⟩; refine ⟨_, rfl, ?_⟩) | ((with_reducible refine gate_callee (f := 19) rfl ?_); refine goesL_ (some 12) rfl rfl Try.func19 (by kernel_rfl) rfl #[.int .i64 a0, .int .i64 7] rfl (by (try simp only [List.map_toArray, List.map_cons, List.map_nil]); first | done | rfl | (simp only [List.length_drop, List.length_take]; rfl)) ?_; (with_reducible refine (plaitinglaw4_within.calls a0 7 t8102 _ A7.out).mono ?_); rintro e w' ⟨rfl, ⟨nd, rfl⟩⟩; refine ⟨_, rfl, ?_⟩) | ((with_reducible refine gate_callee (f := 19) rfl ?_); refine goesL_ (some 16) rfl rfl Try.func19 (by kernel_rfl) rfl #[.int .i64 a1, .int .i64 (wrap64 (6 + t8102))] rfl (by (try simp only [List.map_toArray, List.map_cons, List.map_nil]); first | done | rfl | (simp only [List.length_drop, List.length_take]; rfl)) ?_; (with_reducible refine (plaitinglaw4_within.calls a1 (wrap64 (6 + t8102)) t8103 _ A8.out).mono ?_); rintro e w' ⟨rfl, ⟨nd, rfl⟩⟩; refine ⟨_, rfl, ?_⟩) | ((with_reducible refine gate_callee (f := 19) rfl ?_); refine goesL_ (some 18) rfl rfl Try.func19 (by kernel_rfl) rfl #[.int .i64 a2, .int .i64 2000] rfl (by (try simp only [List.map_toArray, List.map_cons, List.map_nil]); first | done | rfl | (simp only [List.length_drop, List.length_take]; rfl)) ?_; (with_reducible refine (plaitinglaw4_within.calls a2 2000 t8104 _ A9.out).mono ?_); rintro e w' ⟨rfl, ⟨nd, rfl⟩⟩; refine ⟨_, rfl, ?_⟩) | ((with_reducible refine gate_callee (f := 19) rfl ?_); refine goesL_ (some 21) rfl rfl Try.func19 (by kernel_rfl) rfl #[.int .i64 a3, .int .i64 2000] rfl (by (try simp only [List.map_toArray, List.map_cons, List.map_nil]); first | done | rfl | (simp only [List.length_drop, List.length_take]; rfl)) ?_; (with_reducible refine (plaitinglaw4_within.calls a3 2000 t8105 _ A10.out).mono ?_); rintro e w' ⟨rfl, ⟨nd, rfl⟩⟩; refine ⟨_, rfl, ?_⟩) | ((with_reducible refine gate_callee (f := 21) rfl ?_); refine goesL_ (some 27) rfl rfl Try.func21 (by kernel_rfl) rfl #[.int .i64 (wrap64 (6 + t8102)), .int .i64 t8103, .int .i64 (wrap64 (t8104 - 1000))] rfl (by (try simp only [List.map_toArray, List.map_cons, List.map_nil]); first | done | rfl | (simp only [List.length_drop, List.length_take]; rfl)) ?_; (with_reducible refine (ring_At.calls (wrap64 (6 + t8102)) t8103 (wrap64 (t8104 - 1000)) t8106 _ A11.out).mono ?_); rintro e w' ⟨rfl, ⟨nd, rfl⟩⟩; refine ⟨_, rfl, ?_⟩) | ((with_reducible refine gate_callee (f := 21) rfl ?_); refine goesL_ (some 29) rfl rfl Try.func21 (by kernel_rfl) rfl #[.int .i64 (wrap64 (6 + t8102)), .int .i64 t8106, .int .i64 (wrap64 (t8105 - 1000))] rfl (by (try simp only [List.map_toArray, List.map_cons, List.map_nil]); first | done | rfl | (simp only [List.length_drop, List.length_take]; rfl)) ?_; (with_reducible refine (ring_At.calls (wrap64 (6 + t8102)) t8106 (wrap64 (t8105 - 1000)) t8107 _ A12.out).mono ?_); rintro e w' ⟨rfl, ⟨nd, rfl⟩⟩; refine ⟨_, rfl, ?_⟩) | ((with_reducible refine gate_callee (f := 21) rfl ?_); refine goesL_ (some 35) rfl rfl Try.func21 (by kernel_rfl) rfl #[.int .i64 (wrap64 (6 + t8102)), .int .i64 t8103, .int .i64 (wrap64 ((wrap64 (t8104 - 1000)) + (wrap64 (t8105 - 1000))))] rfl (by (try simp only [List.map_toArray, List.map_cons, List.map_nil]); first | done | rfl | (simp only [List.length_drop, List.length_take]; rfl)) ?_; (with_reducible refine (ring_At.calls (wrap64 (6 + t8102)) t8103 (wrap64 ((wrap64 (t8104 - 1000)) + (wrap64 (t8105 - 1000)))) t8108 _ A13.out).mono ?_); rintro e w' ⟨rfl, ⟨nd, rfl⟩⟩; refine ⟨_, rfl, ?_⟩) | (go_at_call 21; (with_reducible refine (ring_At.calls (wrap64 (6 + t8102)) t8103 (wrap64 (6 + t8102)) t8109 _ A15.out).mono ?_); rintro e w' ⟨rfl, ⟨nd, rfl⟩⟩) | (go_at_call 21; (with_reducible refine (ring_At.calls (wrap64 (6 + t8102)) t8103 (wrap64 (t8104 - 1000)) t8110 _ A17.out).mono ?_); rintro e w' ⟨rfl, ⟨nd, rfl⟩⟩) | (go_at_call 21; (with_reducible refine (ring_At.calls (wrap64 (6 + t8102)) t8110 (wrap64 (-(wrap64 (t8104 - 1000)))) t8111 _ A18.out).mono ?_); rintro e w' ⟨rfl, ⟨nd, rfl⟩⟩))
        go_ret
        exact ⟨by first | rfl | (simp; done) | (simp [*]; done), by repeat (first | exact Drawn0.refl _ | apply Drawn0.step)⟩
      · rw [if_neg c16] at H
        have c16b0 : (t8109 == t8103) = false := beq_eq_false_iff_ne.mpr c16
        have c16b1 : (t8109 != t8103) = true := bne_iff_ne.mpr c16
        exact absurd ((Option.some.inj H).trans HRT.out) (by decide)
    · rw [if_neg c14] at H
      have c14b0 : (t8107 == t8108) = false := beq_eq_false_iff_ne.mpr c14
      have c14b1 : (t8107 != t8108) = true := bne_iff_ne.mpr c14
      exact absurd ((Option.some.inj H).trans HRT.out) (by decide)
  · replace c6 := Bool.eq_false_iff.mpr c6
    subst c6
    have H1 : (some false) = some r := by rw [if_neg (show ¬ (false = true) by decide)] at H; exact H
    clear H
    have H := H1
    clear H1
    exact absurd ((Option.some.inj H).trans HRT.out) (by decide)

/-- THE ONE PURE STATEMENT of plaitinglaw4_RingTurns: yours. -/
def plaitinglaw4_RingTurns.Pure : Prop := ∀ (a0 : Int) (a1 : Int) (a2 : Int) (a3 : Int), (Lit.int .i64 a0).wf = true → (Lit.int .i64 a1).wf = true → (Lit.int .i64 a2).wf = true → (Lit.int .i64 a3).wf = true → plaitinglaw4_RingTurns.f a0 a1 a2 a3 = some true
theorem plaitinglaw4_RingTurns.walk (P : plaitinglaw4_RingTurns.Pure) (a0 : Int) (a1 : Int) (a2 : Int) (a3 : Int) (w : World) (w0 : (Lit.int .i64 a0).wf = true) (w1 : (Lit.int .i64 a1).wf = true) (w2 : (Lit.int .i64 a2).wf = true) (w3 : (Lit.int .i64 a3).wf = true) :
    Calls Try.prog 4 #[.int .i64 a0, .int .i64 a1, .int .i64 a2, .int .i64 a3] w fun e w' => e = .returned (.bool true) ∧ Below w.heap.size w w' := by
  have h := P a0 a1 a2 a3 w0 w1 w2 w3
  refine (plaitinglaw4_RingTurns.calls a0 a1 a2 a3 true w rfl h).mono ?_
  rintro e w' ⟨rfl, hd⟩
  exact ⟨rfl, hd.below⟩

end Go.Proofs.Ytdkbalaphblobaa.P
