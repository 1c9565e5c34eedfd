/- Printed by a program of this session (myprint) out of the translation: the functions as plain Lean functions, and that the calls compute them. What counts is Lean's check. -/
import Derived.Test.YtdkbalaphblobaaPx0
import Derived.Test.YtdkbalaphblobaaPx1
import Derived.Test.YtdkbalaphblobaaPx2
namespace Go.Proofs.Ytdkbalaphblobaa.P
open Go.RowKit Go.Proofs.YtdkbalaphblobaaW.PrintWords Go.Proofs.YtdkbalaphblobaaW.PrintLast Go.Proofs.YtdkbalaphblobaaW.PrintMore
attribute [local go_sem] max2_int min2_int max_two min_two max_three min_three max_four min_four   -- for this text's walks alone
set_option linter.unusedVariables false
set_option linter.unusedSimpArgs false

/-! ### plaitinglaw4_RingSteps: function 3 -/
mutual
def plaitinglaw4_RingSteps.j0 : Nat → Int → Int → Int → Int → Option (Bool)
  | 0, _, _, _, _ => none
  | k + 1, x0, x9, x10, x11 => (ring_Dist.f x0 x9 x10 x11).bind fun t6105 => (if t6105 < 0 then (plaitinglaw4_RingSteps.j1 k x0 x9 x10 x11 t6105 true) else (if t6105 ≥ x0 then (plaitinglaw4_RingSteps.j1 k x0 x9 x10 x11 t6105 true) else ((ring_At.f x0 x9 (wrap64 (x11 * t6105))).bind fun t6106 => (plaitinglaw4_RingSteps.j1 k x0 x9 x10 x11 t6105 (t6106 != x10)))))
def plaitinglaw4_RingSteps.j1 : Nat → Int → Int → Int → Int → Int → Bool → Option (Bool)
  | 0, _, _, _, _, _, _ => none
  | k + 1, x0, x9, x10, x11, x12, x47 => if x47 = true then (some false) else (if x9 = x10 then (if x12 = 0 then (some true) else (some false)) else ((ring_Dist.f x0 x9 x10 (wrap64 (-x11))).bind fun t6107 => (if (wrap64 (x12 + t6107)) = x0 then ((ring_Dist.f x0 x10 x9 (wrap64 (-x11))).bind fun t6108 => (some (x12 == t6108))) else (some false))))
end
def plaitinglaw4_RingSteps.f (k : Nat) (a0 : Int) (a1 : Int) (a2 : Int) (a3 : Bool) : Option (Bool) := (plaitinglaw4_known.f).bind fun t6101 => (if t6101 = true then ((plaitinglaw4_within.f a0 7).bind fun t6102 => ((plaitinglaw4_within.f a1 (wrap64 (6 + t6102))).bind fun t6103 => ((plaitinglaw4_within.f a2 (wrap64 (6 + t6102))).bind fun t6104 => (if a3 = true then (plaitinglaw4_RingSteps.j0 k (wrap64 (6 + t6102)) t6103 t6104 1) else (plaitinglaw4_RingSteps.j0 k (wrap64 (6 + t6102)) t6103 t6104 (-1)))))) else (some false))
theorem plaitinglaw4_RingSteps.mono_l : ∀ k, (∀ y0 y1 y2 y3, LeO (plaitinglaw4_RingSteps.j0 k y0 y1 y2 y3) (plaitinglaw4_RingSteps.j0 (k + 1) y0 y1 y2 y3)) ∧ (∀ y0 y1 y2 y3 y4 y5, LeO (plaitinglaw4_RingSteps.j1 k y0 y1 y2 y3 y4 y5) (plaitinglaw4_RingSteps.j1 (k + 1) y0 y1 y2 y3 y4 y5))
  | 0 => ⟨fun _ _ _ _ r h => by simp [plaitinglaw4_RingSteps.j0] at h, fun _ _ _ _ _ _ r h => by simp [plaitinglaw4_RingSteps.j1] at h⟩
  | k + 1 => by
    obtain ⟨ih0, ih1⟩ := plaitinglaw4_RingSteps.mono_l k
    refine ⟨?_, ?_⟩
    · intro y0 y1 y2 y3
      unfold plaitinglaw4_RingSteps.j0
      repeat' first
      | (with_reducible exact ih0 _ _ _ _)
      | (with_reducible exact ih1 _ _ _ _ _ _)
      | (with_reducible exact LeO.refl _)
      | (with_reducible exact LeO.none _)
      | (with_reducible refine LeO.ite ?_ ?_)
      | (with_reducible refine LeO.bind ?_ (fun _ => ?_))
      | exact ih0 _ _ _ _
      | exact ih1 _ _ _ _ _ _
      | exact LeO.none _
      | refine LeO.ite ?_ ?_
      | refine LeO.bind ?_ (fun _ => ?_)
    · intro y0 y1 y2 y3 y4 y5
      unfold plaitinglaw4_RingSteps.j1
      repeat' first
      | (with_reducible exact ih0 _ _ _ _)
      | (with_reducible exact ih1 _ _ _ _ _ _)
      | (with_reducible exact LeO.refl _)
      | (with_reducible exact LeO.none _)
      | (with_reducible refine LeO.ite ?_ ?_)
      | (with_reducible refine LeO.bind ?_ (fun _ => ?_))
      | exact ih0 _ _ _ _
      | exact ih1 _ _ _ _ _ _
      | exact LeO.none _
      | refine LeO.ite ?_ ?_
      | refine LeO.bind ?_ (fun _ => ?_)
theorem plaitinglaw4_RingSteps.mono : ∀ a0 a1 a2 a3 k, LeO (plaitinglaw4_RingSteps.f k a0 a1 a2 a3) (plaitinglaw4_RingSteps.f (k + 1) a0 a1 a2 a3) := by
  intro a0 a1 a2 a3 k
  obtain ⟨ih0, ih1⟩ := plaitinglaw4_RingSteps.mono_l k
  unfold plaitinglaw4_RingSteps.f
  repeat' first
      | (with_reducible exact ih0 _ _ _ _)
      | (with_reducible exact ih1 _ _ _ _ _ _)
      | (with_reducible exact LeO.refl _)
      | (with_reducible exact LeO.none _)
      | (with_reducible refine LeO.ite ?_ ?_)
      | (with_reducible refine LeO.bind ?_ (fun _ => ?_))
      | exact ih0 _ _ _ _
      | exact ih1 _ _ _ _ _ _
      | exact LeO.none _
      | refine LeO.ite ?_ ?_
      | refine LeO.bind ?_ (fun _ => ?_)
set_option maxHeartbeats 8000000 in
set_option maxRecDepth 100000 in
theorem plaitinglaw4_RingSteps.calls (k : Nat) (a0 : Int) (a1 : Int) (a2 : Int) (a3 : Bool) (r : Bool) (w : World) (hrt : r = true) (h : plaitinglaw4_RingSteps.f k a0 a1 a2 a3 = some r) :
    Calls Try.prog 3 #[.int .i64 a0, .int .i64 a1, .int .i64 a2, .bool a3] w fun e w' => e = .returned (.bool r) ∧ Drawn0 w w' := by
  have HRT := Aside0.mk hrt
  clear hrt
  have H : ((plaitinglaw4_known.f).bind fun t6101 => (if t6101 = true then ((plaitinglaw4_within.f a0 7).bind fun t6102 => ((plaitinglaw4_within.f a1 (wrap64 (6 + t6102))).bind fun t6103 => ((plaitinglaw4_within.f a2 (wrap64 (6 + t6102))).bind fun t6104 => (if a3 = true then (plaitinglaw4_RingSteps.j0 k (wrap64 (6 + t6102)) t6103 t6104 1) else (plaitinglaw4_RingSteps.j0 k (wrap64 (6 + t6102)) t6103 t6104 (-1)))))) else (some false))) = some r := h
  clear h
  replace H := Option.bind_eq_some_iff.mp H
  obtain ⟨t6101, A50, H⟩ := H
  replace H : (if t6101 = true then ((plaitinglaw4_within.f a0 7).bind fun t6102 => ((plaitinglaw4_within.f a1 (wrap64 (6 + t6102))).bind fun t6103 => ((plaitinglaw4_within.f a2 (wrap64 (6 + t6102))).bind fun t6104 => (if a3 = true then (plaitinglaw4_RingSteps.j0 k (wrap64 (6 + t6102)) t6103 t6104 1) else (plaitinglaw4_RingSteps.j0 k (wrap64 (6 + t6102)) t6103 t6104 (-1)))))) else (some false)) = some r := H
  have A5 := Aside0.mk A50
  clear A50
  by_cases c6 : t6101 = true
  · subst c6
    have H1 : ((plaitinglaw4_within.f a0 7).bind fun t6102 => ((plaitinglaw4_within.f a1 (wrap64 (6 + t6102))).bind fun t6103 => ((plaitinglaw4_within.f a2 (wrap64 (6 + t6102))).bind fun t6104 => (if a3 = true then (plaitinglaw4_RingSteps.j0 k (wrap64 (6 + t6102)) t6103 t6104 1) else (plaitinglaw4_RingSteps.j0 k (wrap64 (6 + t6102)) t6103 t6104 (-1)))))) = some r := by rw [if_pos rfl] at H; exact H
    clear H
    have H := H1
    clear H1
    replace H := Option.bind_eq_some_iff.mp H
    obtain ⟨t6102, A70, H⟩ := H
    replace H : ((plaitinglaw4_within.f a1 (wrap64 (6 + t6102))).bind fun t6103 => ((plaitinglaw4_within.f a2 (wrap64 (6 + t6102))).bind fun t6104 => (if a3 = true then (plaitinglaw4_RingSteps.j0 k (wrap64 (6 + t6102)) t6103 t6104 1) else (plaitinglaw4_RingSteps.j0 k (wrap64 (6 + t6102)) t6103 t6104 (-1))))) = some r := H
    have A7 := Aside0.mk A70
    clear A70
    replace H := Option.bind_eq_some_iff.mp H
    obtain ⟨t6103, A80, H⟩ := H
    replace H : ((plaitinglaw4_within.f a2 (wrap64 (6 + t6102))).bind fun t6104 => (if a3 = true then (plaitinglaw4_RingSteps.j0 k (wrap64 (6 + t6102)) t6103 t6104 1) else (plaitinglaw4_RingSteps.j0 k (wrap64 (6 + t6102)) t6103 t6104 (-1)))) = some r := H
    have A8 := Aside0.mk A80
    clear A80
    replace H := Option.bind_eq_some_iff.mp H
    obtain ⟨t6104, A90, H⟩ := H
    replace H : (if a3 = true then (plaitinglaw4_RingSteps.j0 k (wrap64 (6 + t6102)) t6103 t6104 1) else (plaitinglaw4_RingSteps.j0 k (wrap64 (6 + t6102)) t6103 t6104 (-1))) = some r := H
    have A9 := Aside0.mk A90
    clear A90
    have HC10 := Aside0.mk H
    clear H
    go_enter Try.func3, Try.ntmps3
    go_upto_if 25 with (first | ((with_reducible refine gate_callee (f := 18) rfl ?_); refine goesL_ (some 13) rfl rfl Try.func18 (by kernel_rfl) rfl #[] rfl (by (try simp only [List.map_toArray, List.map_cons, List.map_nil]); first | done | rfl | (simp only [List.length_drop, List.length_take]; rfl)) ?_; (with_reducible refine (plaitinglaw4_known.calls  true _ A5.out).mono ?_); rintro e w' ⟨rfl, ⟨nd, rfl⟩⟩; refine ⟨_, rfl, ?_⟩) | ((with_reducible refine gate_callee (f := 19) rfl ?_); refine goesL_ (some 16) rfl rfl Try.func19 (by kernel_rfl) rfl #[.int .i64 a0, .int .i64 7] rfl (by (try simp only [List.map_toArray, List.map_cons, List.map_nil]); first | done | rfl | (simp only [List.length_drop, List.length_take]; rfl)) ?_; (with_reducible refine (plaitinglaw4_within.calls a0 7 t6102 _ A7.out).mono ?_); rintro e w' ⟨rfl, ⟨nd, rfl⟩⟩; refine ⟨_, rfl, ?_⟩) | ((with_reducible refine gate_callee (f := 19) rfl ?_); refine goesL_ (some 20) rfl rfl Try.func19 (by kernel_rfl) rfl #[.int .i64 a1, .int .i64 (wrap64 (6 + t6102))] rfl (by (try simp only [List.map_toArray, List.map_cons, List.map_nil]); first | done | rfl | (simp only [List.length_drop, List.length_take]; rfl)) ?_; (with_reducible refine (plaitinglaw4_within.calls a1 (wrap64 (6 + t6102)) t6103 _ A8.out).mono ?_); rintro e w' ⟨rfl, ⟨nd, rfl⟩⟩; refine ⟨_, rfl, ?_⟩) | ((with_reducible refine gate_callee (f := 19) rfl ?_); refine goesL_ (some 23) rfl rfl Try.func19 (by kernel_rfl) rfl #[.int .i64 a2, .int .i64 (wrap64 (6 + t6102))] rfl (by (try simp only [List.map_toArray, List.map_cons, List.map_nil]); first | done | rfl | (simp only [List.length_drop, List.length_take]; rfl)) ?_; (with_reducible refine (plaitinglaw4_within.calls a2 (wrap64 (6 + t6102)) t6104 _ A9.out).mono ?_); rintro e w' ⟨rfl, ⟨nd, rfl⟩⟩; refine ⟨_, rfl, ?_⟩))
    (try simp only [Act.put, List.setIfInBounds_toArray, List.set_cons_zero, List.set_cons_succ])
    go_cut [11] (fun v11 wc => ∃ (kq : Nat) (x11_9 : Int), v11 = .int .i64 x11_9 ∧ Aside0 (plaitinglaw4_RingSteps.j0 kq (wrap64 (6 + t6102)) t6103 t6104 x11_9 = some r) ∧ Aside0 (kq ≤ k) ∧ Drawn0 w wc)
    case first =>
      have H := HC10.out
      clear HC10
      by_cases c11 : a3 = true
      · subst c11
        have H1 : (plaitinglaw4_RingSteps.j0 k (wrap64 (6 + t6102)) t6103 t6104 1) = some r := by rw [if_pos rfl] at H; exact H
        clear H
        have H := H1
        clear H1
        have H' := Aside0.mk H
        clear H
        go_wp2
        go_meet
        case rel => exact ⟨_, (1), (by first | rfl | (simp; done) | (simp [*]; done)), H', ⟨by first | omega | exact Nat.le_refl _⟩, by repeat (first | exact Drawn0.refl _ | apply Drawn0.step)⟩
      · replace c11 := Bool.eq_false_iff.mpr c11
        subst c11
        have H1 : (plaitinglaw4_RingSteps.j0 k (wrap64 (6 + t6102)) t6103 t6104 (-1)) = some r := by rw [if_neg (show ¬ (false = true) by decide)] at H; exact H
        clear H
        have H := H1
        clear H1
        have H' := Aside0.mk H
        clear H
        go_wp2
        go_meet
        case rel => exact ⟨_, ((-1)), (by first | rfl | (simp; done) | (simp [*]; done)), H', ⟨by first | omega | exact Nat.le_refl _⟩, by repeat (first | exact Drawn0.refl _ | apply Drawn0.step)⟩
    case rest =>
      clear HC10
      try clear c1
      try clear p2
      try clear c3
      try clear c6
      try clear p6
      try clear c11
      obtain ⟨kq, x11_9, rfl, HA, HJ9, ⟨mc9, rfl⟩⟩ := hcut
      cases kq with
      | zero => exact absurd HA.out (by simp [plaitinglaw4_RingSteps.j0])
      | succ kj9 =>
        have H := HA.out
        clear HA
        simp only [plaitinglaw4_RingSteps.j0] at H
        replace H := Option.bind_eq_some_iff.mp H
        obtain ⟨t6105, A120, H⟩ := H
        replace H : (if t6105 < 0 then (plaitinglaw4_RingSteps.j1 kj9 (wrap64 (6 + t6102)) t6103 t6104 x11_9 t6105 true) else (if t6105 ≥ (wrap64 (6 + t6102)) then (plaitinglaw4_RingSteps.j1 kj9 (wrap64 (6 + t6102)) t6103 t6104 x11_9 t6105 true) else ((ring_At.f (wrap64 (6 + t6102)) t6103 (wrap64 (x11_9 * t6105))).bind fun t6106 => (plaitinglaw4_RingSteps.j1 kj9 (wrap64 (6 + t6102)) t6103 t6104 x11_9 t6105 (t6106 != t6104))))) = some r := H
        have A12 := Aside0.mk A120
        clear A120
        have HC13 := Aside0.mk H
        clear H
        go_upto_region 8 with (first | ((with_reducible refine gate_callee (f := 20) rfl ?_); refine goesL_ (some 30) rfl rfl Try.func20 (by kernel_rfl) rfl #[.int .i64 (wrap64 (6 + t6102)), .int .i64 t6103, .int .i64 t6104, .int .i64 x11_9] rfl (by (try simp only [List.map_toArray, List.map_cons, List.map_nil]); first | done | rfl | (simp only [List.length_drop, List.length_take]; rfl)) ?_; (with_reducible refine (ring_Dist.calls (wrap64 (6 + t6102)) t6103 t6104 x11_9 t6105 _ A12.out).mono ?_); rintro e w' ⟨rfl, ⟨nd, rfl⟩⟩; refine ⟨_, rfl, ?_⟩))
        (try simp only [Act.put, List.setIfInBounds_toArray, List.set_cons_zero, List.set_cons_succ])
        go_cut [47] (fun v47 wc => ∃ (kq : Nat) (x47_12 : Bool), v47 = .bool x47_12 ∧ Aside0 (plaitinglaw4_RingSteps.j1 kq (wrap64 (6 + t6102)) t6103 t6104 x11_9 t6105 x47_12 = some r) ∧ Aside0 (kq ≤ kj9) ∧ Drawn0 w wc)
        case first =>
          have H := HC13.out
          clear HC13
          by_cases c14 : t6105 < 0
          · rw [if_pos c14] at H
            have c14b0 : decide (t6105 < 0) = true := decide_eq_true c14
            clear c14
            (first | rw [c14b0] | (simp only [i64_w, i32_w]; rw [c14b0]) | skip)
            have H' := Aside0.mk H
            clear H
            go_wp2
            go_meet
            case rel => exact ⟨_, (true), (by first | rfl | (simp; done) | (simp [*]; done)), H', ⟨by have := HJ9.out; first | omega | exact Nat.le_refl _⟩, by repeat (first | exact Drawn0.refl _ | apply Drawn0.step)⟩
          · rw [if_neg c14] at H
            have c14b0 : decide (t6105 < 0) = false := decide_eq_false c14
            clear c14
            (first | rw [c14b0] | (simp only [i64_w, i32_w]; rw [c14b0]) | skip)
            by_cases c15 : t6105 ≥ (wrap64 (6 + t6102))
            · rw [if_pos c15] at H
              have c15b0 : decide ((wrap64 (6 + t6102)) ≤ t6105) = true := decide_eq_true c15
              clear c15
              have H' := Aside0.mk H
              clear H
              go_wp2
              go_meet
              case rel => exact ⟨_, (true), (by first | rfl | (simp; done) | (simp [*]; done)), H', ⟨by have := HJ9.out; first | omega | exact Nat.le_refl _⟩, by repeat (first | exact Drawn0.refl _ | apply Drawn0.step)⟩
            · rw [if_neg c15] at H
              have c15b0 : decide ((wrap64 (6 + t6102)) ≤ t6105) = false := decide_eq_false c15
              clear c15
              replace H := Option.bind_eq_some_iff.mp H
              obtain ⟨t6106, A160, H⟩ := H
              replace H : (plaitinglaw4_RingSteps.j1 kj9 (wrap64 (6 + t6102)) t6103 t6104 x11_9 t6105 (t6106 != t6104)) = some r := H
              have A16 := Aside0.mk A160
              clear A160
              have H' := Aside0.mk H
              clear H
              go_wp2_with (first | (go_at_call 21; (with_reducible refine (ring_At.calls (wrap64 (6 + t6102)) t6103 (wrap64 (x11_9 * t6105)) t6106 _ A16.out).mono ?_); rintro e w' ⟨rfl, ⟨nd, rfl⟩⟩))
              go_meet
              case rel => exact ⟨_, ((t6106 != t6104)), (by first | rfl | (simp; done) | (simp [*]; done)), H', ⟨by have := HJ9.out; first | omega | exact Nat.le_refl _⟩, by repeat (first | exact Drawn0.refl _ | apply Drawn0.step)⟩
        case rest =>
          clear HC13
          try clear c1
          try clear c2
          try clear p2
          try clear c3
          try clear c6
          try clear p6
          try clear c9
          try clear c11
          try clear c14
          try clear c14b0
          try clear c15
          try clear c15b0
          try clear p2
          try clear p6
          obtain ⟨kq, x47_12, rfl, HA, HJ12, ⟨mc12, rfl⟩⟩ := hcut
          cases kq with
          | zero => exact absurd HA.out (by simp [plaitinglaw4_RingSteps.j1])
          | succ kj12 =>
            have H := HA.out
            clear HA
            simp only [plaitinglaw4_RingSteps.j1] at H
            by_cases c17 : x47_12 = true
            · subst c17
              have H1 : (some false) = some r := by rw [if_pos rfl] at H; exact H
              clear H
              have H := H1
              clear H1
              exact absurd ((Option.some.inj H).trans HRT.out) (by decide)
            · replace c17 := Bool.eq_false_iff.mpr c17
              subst c17
              have H1 : (if t6103 = t6104 then (if t6105 = 0 then (some true) else (some false)) else ((ring_Dist.f (wrap64 (6 + t6102)) t6103 t6104 (wrap64 (-x11_9))).bind fun t6107 => (if (wrap64 (t6105 + t6107)) = (wrap64 (6 + t6102)) then ((ring_Dist.f (wrap64 (6 + t6102)) t6104 t6103 (wrap64 (-x11_9))).bind fun t6108 => (some (t6105 == t6108))) else (some false)))) = some r := by rw [if_neg (show ¬ (false = true) by decide)] at H; exact H
              clear H
              have H := H1
              clear H1
              by_cases c18 : t6103 = t6104
              · rw [if_pos c18] at H
                have c18b0 : (t6103 == t6104) = true := beq_iff_eq.mpr c18
                have c18b1 : (t6103 != t6104) = false := bne_eq_false_iff_eq.mpr c18
                clear c18
                by_cases c19 : t6105 = 0
                · rw [if_pos c19] at H
                  have c19b0 : (t6105 == 0) = true := beq_iff_eq.mpr c19
                  have c19b1 : (t6105 != 0) = false := bne_eq_false_iff_eq.mpr c19
                  clear c19
                  obtain rfl := Option.some.inj H
                  go_wp2
                  go_ret
                  exact ⟨by first | rfl | (simp; done) | (simp [*]; done), by repeat (first | exact Drawn0.refl _ | apply Drawn0.step)⟩
                · rw [if_neg c19] at H
                  have c19b0 : (t6105 == 0) = false := beq_eq_false_iff_ne.mpr c19
                  have c19b1 : (t6105 != 0) = true := bne_iff_ne.mpr c19
                  exact absurd ((Option.some.inj H).trans HRT.out) (by decide)
              · rw [if_neg c18] at H
                have c18b0 : (t6103 == t6104) = false := beq_eq_false_iff_ne.mpr c18
                have c18b1 : (t6103 != t6104) = true := bne_iff_ne.mpr c18
                replace H := Option.bind_eq_some_iff.mp H
                obtain ⟨t6107, A200, H⟩ := H
                replace H : (if (wrap64 (t6105 + t6107)) = (wrap64 (6 + t6102)) then ((ring_Dist.f (wrap64 (6 + t6102)) t6104 t6103 (wrap64 (-x11_9))).bind fun t6108 => (some (t6105 == t6108))) else (some false)) = some r := H
                have A20 := Aside0.mk A200
                clear A200
                by_cases c21 : (wrap64 (t6105 + t6107)) = (wrap64 (6 + t6102))
                · rw [if_pos c21] at H
                  have c21b0 : ((wrap64 (t6105 + t6107)) == (wrap64 (6 + t6102))) = true := beq_iff_eq.mpr c21
                  have c21b1 : ((wrap64 (t6105 + t6107)) != (wrap64 (6 + t6102))) = false := bne_eq_false_iff_eq.mpr c21
                  clear c21
                  replace H := Option.bind_eq_some_iff.mp H
                  obtain ⟨t6108, A220, H⟩ := H
                  replace H : (some (t6105 == t6108)) = some r := H
                  have A22 := Aside0.mk A220
                  clear A220
                  obtain rfl := Option.some.inj H
                  go_wp2_with (first | (go_at_call 20; (with_reducible refine (ring_Dist.calls (wrap64 (6 + t6102)) t6103 t6104 (wrap64 (-x11_9)) t6107 _ A20.out).mono ?_); rintro e w' ⟨rfl, ⟨nd, rfl⟩⟩) | (go_at_call 20; (with_reducible refine (ring_Dist.calls (wrap64 (6 + t6102)) t6104 t6103 (wrap64 (-x11_9)) t6108 _ A22.out).mono ?_); rintro e w' ⟨rfl, ⟨nd, rfl⟩⟩))
                  go_ret
                  exact ⟨by first | rfl | (simp; done) | (simp [*]; done), by repeat (first | exact Drawn0.refl _ | apply Drawn0.step)⟩
                · rw [if_neg c21] at H
                  have c21b0 : ((wrap64 (t6105 + t6107)) == (wrap64 (6 + t6102))) = false := beq_eq_false_iff_ne.mpr c21
                  have c21b1 : ((wrap64 (t6105 + t6107)) != (wrap64 (6 + t6102))) = true := bne_iff_ne.mpr c21
                  exact absurd ((Option.some.inj H).trans HRT.out) (by decide)
  · replace c6 := Bool.eq_false_iff.mpr c6
    subst c6
    have H1 : (some false) = some r := by rw [if_neg (show ¬ (false = true) by decide)] at H; exact H
    clear H
    have H := H1
    clear H1
    exact absurd ((Option.some.inj H).trans HRT.out) (by decide)

/-- THE ONE PURE STATEMENT of plaitinglaw4_RingSteps: yours. -/
def plaitinglaw4_RingSteps.Pure : Prop := ∀ (a0 : Int) (a1 : Int) (a2 : Int) (a3 : Bool), (Lit.int .i64 a0).wf = true → (Lit.int .i64 a1).wf = true → (Lit.int .i64 a2).wf = true → ∃ k, plaitinglaw4_RingSteps.f k a0 a1 a2 a3 = some true
theorem plaitinglaw4_RingSteps.walk (P : plaitinglaw4_RingSteps.Pure) (a0 : Int) (a1 : Int) (a2 : Int) (a3 : Bool) (w : World) (w0 : (Lit.int .i64 a0).wf = true) (w1 : (Lit.int .i64 a1).wf = true) (w2 : (Lit.int .i64 a2).wf = true) :
    Calls Try.prog 3 #[.int .i64 a0, .int .i64 a1, .int .i64 a2, .bool a3] w fun e w' => e = .returned (.bool true) ∧ Below w.heap.size w w' := by
  obtain ⟨k, h⟩ := P a0 a1 a2 a3 w0 w1 w2
  refine (plaitinglaw4_RingSteps.calls k a0 a1 a2 a3 true w rfl h).mono ?_
  rintro e w' ⟨rfl, hd⟩
  exact ⟨rfl, hd.below⟩

end Go.Proofs.Ytdkbalaphblobaa.P
