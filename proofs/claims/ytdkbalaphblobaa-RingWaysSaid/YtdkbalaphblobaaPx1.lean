/- Printed by a program of this session (myprint) out of the translation: the functions as plain Lean functions, and that the calls compute them. What counts is Lean's check. -/
import Derived.Test.YtdkbalaphblobaaPx0
namespace Go.Proofs.Ytdkbalaphblobaa.P
open Go.RowKit Go.Proofs.YtdkbalaphblobaaW.PrintWords Go.Proofs.YtdkbalaphblobaaW.PrintLast Go.Proofs.YtdkbalaphblobaaW.PrintMore
attribute [local go_sem] max2_int min2_int max_two min_two max_three min_three max_four min_four   -- for this text's walks alone
set_option linter.unusedVariables false
set_option linter.unusedSimpArgs false

/-! ### ring_At: function 21 -/
def ring_At.f (a0 : Int) (a1 : Int) (a2 : Int) : Option (Int) := if a0 ≤ 0 then (some 0) else (if a0 = 0 then (none) else (some (Int.tmod (wrap64 ((Int.tmod (wrap64 (a1 + a2)) a0) + a0)) a0)))
set_option maxHeartbeats 8000000 in
set_option maxRecDepth 100000 in
theorem ring_At.calls (a0 : Int) (a1 : Int) (a2 : Int) (r : Int) (w : World) (h : ring_At.f a0 a1 a2 = some r) :
    Calls Try.prog 21 #[.int .i64 a0, .int .i64 a1, .int .i64 a2] w fun e w' => e = .returned (.int .i64 r) ∧ Drawn0 w w' := by
  have H : (if a0 ≤ 0 then (some 0) else (if a0 = 0 then (none) else (some (Int.tmod (wrap64 ((Int.tmod (wrap64 (a1 + a2)) a0) + a0)) a0)))) = some r := h
  clear h
  by_cases c4 : a0 ≤ 0
  · rw [if_pos c4] at H
    have c4b0 : decide (a0 ≤ 0) = true := decide_eq_true c4
    clear c4
    obtain rfl := Option.some.inj H
    go_enter Try.func21, Try.ntmps21
    go_wp2
    go_ret
    exact ⟨by first | rfl | (simp; done) | (simp [*]; done), by repeat (first | exact Drawn0.refl _ | apply Drawn0.step)⟩
  · rw [if_neg c4] at H
    have c4b0 : decide (a0 ≤ 0) = false := decide_eq_false c4
    clear c4
    by_cases c5 : a0 = 0
    · rw [if_pos c5] at H
      exact absurd H (by simp)
    · rw [if_neg c5] at H
      have c5b0 : (a0 == 0) = false := beq_eq_false_iff_ne.mpr c5
      have c5b1 : (a0 != 0) = true := bne_iff_ne.mpr c5
      obtain rfl := Option.some.inj H
      go_enter Try.func21, Try.ntmps21
      go_wp2
      go_ret
      exact ⟨by first | rfl | (simp; done) | (simp [*]; done), by repeat (first | exact Drawn0.refl _ | apply Drawn0.step)⟩

/-! ### ring_Dist: function 20 -/
def ring_Dist.f (a0 : Int) (a1 : Int) (a2 : Int) (a3 : Int) : Option (Int) := (ring_At.f a0 (wrap64 (a3 * (wrap64 (a2 - a1)))) 0).bind fun t40101 => (some t40101)
set_option maxHeartbeats 8000000 in
set_option maxRecDepth 100000 in
theorem ring_Dist.calls (a0 : Int) (a1 : Int) (a2 : Int) (a3 : Int) (r : Int) (w : World) (h : ring_Dist.f a0 a1 a2 a3 = some r) :
    Calls Try.prog 20 #[.int .i64 a0, .int .i64 a1, .int .i64 a2, .int .i64 a3] w fun e w' => e = .returned (.int .i64 r) ∧ Drawn0 w w' := by
  have H : ((ring_At.f a0 (wrap64 (a3 * (wrap64 (a2 - a1)))) 0).bind fun t40101 => (some t40101)) = some r := h
  clear h
  replace H := Option.bind_eq_some_iff.mp H
  obtain ⟨t40101, A50, H⟩ := H
  replace H : (some t40101) = some r := H
  have A5 := Aside0.mk A50
  clear A50
  obtain rfl := Option.some.inj H
  go_enter Try.func20, Try.ntmps20
  go_wp2_with (first | ((with_reducible refine gate_callee (f := 21) rfl ?_); refine goesL_ (some 15) rfl rfl Try.func21 (by kernel_rfl) rfl #[.int .i64 a0, .int .i64 (wrap64 (a3 * (wrap64 (a2 - a1)))), .int .i64 0] rfl (by (try simp only [List.map_toArray, List.map_cons, List.map_nil]); first | done | rfl | (simp only [List.length_drop, List.length_take]; rfl)) ?_; (with_reducible refine (ring_At.calls a0 (wrap64 (a3 * (wrap64 (a2 - a1)))) 0 t40101 _ A5.out).mono ?_); rintro e w' ⟨rfl, ⟨nd, rfl⟩⟩; refine ⟨_, rfl, ?_⟩))
  go_ret
  exact ⟨by first | rfl | (simp; done) | (simp [*]; done), by repeat (first | exact Drawn0.refl _ | apply Drawn0.step)⟩

/-! ### ring_Ends: function 22 -/
def ring_Ends.f (a0 : Int) (a1 : Int) : Option (Int × Int) := if a1 < a0 then ((ring_At.f a0 a1 1).bind fun t44101 => (some (a1, t44101))) else ((ring_At.f a0 (wrap64 (a1 - a0)) 2).bind fun t44102 => (some (wrap64 (a1 - a0), t44102)))
set_option maxHeartbeats 8000000 in
set_option maxRecDepth 100000 in
theorem ring_Ends.calls (a0 : Int) (a1 : Int) (r1 : Int) (r2 : Int) (w : World) (h : ring_Ends.f a0 a1 = some (r1, r2)) :
    Calls Try.prog 22 #[.int .i64 a0, .int .i64 a1] w fun e w' => e = .returned (.tuple #[.int .i64 r1, .int .i64 r2]) ∧ Drawn0 w w' := by
  have H : (if a1 < a0 then ((ring_At.f a0 a1 1).bind fun t44101 => (some (a1, t44101))) else ((ring_At.f a0 (wrap64 (a1 - a0)) 2).bind fun t44102 => (some (wrap64 (a1 - a0), t44102)))) = some (r1, r2) := h
  clear h
  by_cases c3 : a1 < a0
  · rw [if_pos c3] at H
    have c3b0 : decide (a1 < a0) = true := decide_eq_true c3
    clear c3
    replace H := Option.bind_eq_some_iff.mp H
    obtain ⟨t44101, A40, H⟩ := H
    replace H : (some (a1, t44101)) = some (r1, r2) := H
    have A4 := Aside0.mk A40
    clear A40
    simp only [Option.some.injEq, Prod.mk.injEq] at H
    obtain ⟨rfl, rfl⟩ := H
    go_enter Try.func22, Try.ntmps22
    go_wp2_with (first | ((with_reducible refine gate_callee (f := 21) rfl ?_); refine goesL_ (some 12) rfl rfl Try.func21 (by kernel_rfl) rfl #[.int .i64 a0, .int .i64 a1, .int .i64 1] rfl (by (try simp only [List.map_toArray, List.map_cons, List.map_nil]); first | done | rfl | (simp only [List.length_drop, List.length_take]; rfl)) ?_; (with_reducible refine (ring_At.calls a0 a1 1 t44101 _ A4.out).mono ?_); rintro e w' ⟨rfl, ⟨nd, rfl⟩⟩; refine ⟨_, rfl, ?_⟩))
    go_ret2
    exact ⟨by first | rfl | (simp; done) | (simp [*]; done), by repeat (first | exact Drawn0.refl _ | apply Drawn0.step)⟩
  · rw [if_neg c3] at H
    have c3b0 : decide (a1 < a0) = false := decide_eq_false c3
    clear c3
    replace H := Option.bind_eq_some_iff.mp H
    obtain ⟨t44102, A50, H⟩ := H
    replace H : (some (wrap64 (a1 - a0), t44102)) = some (r1, r2) := H
    have A5 := Aside0.mk A50
    clear A50
    simp only [Option.some.injEq, Prod.mk.injEq] at H
    obtain ⟨rfl, rfl⟩ := H
    go_enter Try.func22, Try.ntmps22
    go_wp2_with (first | ((with_reducible refine gate_callee (f := 21) rfl ?_); refine goesL_ (some 20) rfl rfl Try.func21 (by kernel_rfl) rfl #[.int .i64 a0, .int .i64 (wrap64 (a1 - a0)), .int .i64 2] rfl (by (try simp only [List.map_toArray, List.map_cons, List.map_nil]); first | done | rfl | (simp only [List.length_drop, List.length_take]; rfl)) ?_; (with_reducible refine (ring_At.calls a0 (wrap64 (a1 - a0)) 2 t44102 _ A5.out).mono ?_); rintro e w' ⟨rfl, ⟨nd, rfl⟩⟩; refine ⟨_, rfl, ?_⟩))
    go_ret2
    exact ⟨by first | rfl | (simp; done) | (simp [*]; done), by repeat (first | exact Drawn0.refl _ | apply Drawn0.step)⟩


/-! ### ring_Link: function 23 -/
def ring_at3 (n i d : Int) : Int := Int.tmod (wrap64 (Int.tmod (wrap64 (i + d)) n + n)) n
theorem ring_at3_eq (n i d : Int) (h : 0 < n) : ring_At.f n i d = some (ring_at3 n i d) := by
  unfold ring_At.f ring_at3
  rw [if_neg (by omega), if_neg (by omega)]
def ring_Link.f (a0 : Int) (a1 : Int) (a2 : Int) : Option (Int × Bool) :=
  if a1 < 0 then some (0, false) else if a2 < 0 then some (0, false) else if a1 ≥ a0 then some (0, false) else if a2 ≥ a0 then some (0, false) else
  if ring_at3 a0 a1 1 = a2 then some (wrap64 a1, true) else
  if ring_at3 a0 a2 1 = a1 then some (wrap64 a2, true) else
  if ring_at3 a0 a1 2 = a2 then some (wrap64 (a1 + wrap64 a0), true) else
  if ring_at3 a0 a2 2 = a1 then some (wrap64 (a2 + wrap64 a0), true) else some (0, false)
set_option maxHeartbeats 8000000 in
set_option maxRecDepth 100000 in
theorem ring_Link.calls (a0 : Int) (a1 : Int) (a2 : Int) (r1 : Int) (r2 : Bool) (w : World) (h : ring_Link.f a0 a1 a2 = some (r1, r2)) :
    Calls Try.prog 23 #[.int .i64 a0, .int .i64 a1, .int .i64 a2] w fun e w' => e = .returned (.tuple #[.int .i64 r1, .bool r2]) ∧ Below w.heap.size w w' := by
  unfold ring_Link.f at h
  by_cases c0 : a1 < 0
  · rw [if_pos c0] at h
    obtain ⟨rfl, rfl⟩ := Prod.mk.inj (Option.some.inj h)
    go_enter Try.func23, Try.ntmps23
    go_wp2
    go_ret2
    exact ⟨rfl, Below.refl _ _⟩
  rw [if_neg c0] at h
  by_cases c1 : a2 < 0
  · rw [if_pos c1] at h
    obtain ⟨rfl, rfl⟩ := Prod.mk.inj (Option.some.inj h)
    go_enter Try.func23, Try.ntmps23
    go_wp2
    go_ret2
    exact ⟨rfl, Below.refl _ _⟩
  rw [if_neg c1] at h
  by_cases c2 : a1 ≥ a0
  · rw [if_pos c2] at h
    obtain ⟨rfl, rfl⟩ := Prod.mk.inj (Option.some.inj h)
    go_enter Try.func23, Try.ntmps23
    go_wp2
    go_ret2
    exact ⟨rfl, Below.refl _ _⟩
  rw [if_neg c2] at h
  by_cases c3 : a2 ≥ a0
  · rw [if_pos c3] at h
    obtain ⟨rfl, rfl⟩ := Prod.mk.inj (Option.some.inj h)
    go_enter Try.func23, Try.ntmps23
    go_wp2
    go_ret2
    exact ⟨rfl, Below.refl _ _⟩
  rw [if_neg c3] at h
  have A0 := Aside0.mk (ring_at3_eq a0 a1 1 (by omega))
  have A1 := Aside0.mk (ring_at3_eq a0 a2 1 (by omega))
  have A2 := Aside0.mk (ring_at3_eq a0 a1 2 (by omega))
  have A3 := Aside0.mk (ring_at3_eq a0 a2 2 (by omega))
  have i0 : ∀ W, (Instr.index 67 (.agg #[.int .i64 a1, .int .i64 a2, .int .i64 1, .int .i64 a2, .int .i64 a1, .int .i64 1, .int .i64 a1, .int .i64 a2, .int .i64 2, .int .i64 a2, .int .i64 a1, .int .i64 2]) (.int .i64 0)).run Try.prog W = .ok (.agg #[.int .i64 a1, .int .i64 a2, .int .i64 1]) W := fun _ => by kernel_rfl
  have i1 : ∀ W, (Instr.index 67 (.agg #[.int .i64 a1, .int .i64 a2, .int .i64 1, .int .i64 a2, .int .i64 a1, .int .i64 1, .int .i64 a1, .int .i64 a2, .int .i64 2, .int .i64 a2, .int .i64 a1, .int .i64 2]) (.int .i64 1)).run Try.prog W = .ok (.agg #[.int .i64 a2, .int .i64 a1, .int .i64 1]) W := fun _ => by kernel_rfl
  have i2 : ∀ W, (Instr.index 67 (.agg #[.int .i64 a1, .int .i64 a2, .int .i64 1, .int .i64 a2, .int .i64 a1, .int .i64 1, .int .i64 a1, .int .i64 a2, .int .i64 2, .int .i64 a2, .int .i64 a1, .int .i64 2]) (.int .i64 2)).run Try.prog W = .ok (.agg #[.int .i64 a1, .int .i64 a2, .int .i64 2]) W := fun _ => by kernel_rfl
  have i3 : ∀ W, (Instr.index 67 (.agg #[.int .i64 a1, .int .i64 a2, .int .i64 1, .int .i64 a2, .int .i64 a1, .int .i64 1, .int .i64 a1, .int .i64 a2, .int .i64 2, .int .i64 a2, .int .i64 a1, .int .i64 2]) (.int .i64 3)).run Try.prog W = .ok (.agg #[.int .i64 a2, .int .i64 a1, .int .i64 2]) W := fun _ => by kernel_rfl
  by_cases d0 : ring_at3 a0 a1 1 = a2
  · rw [if_pos d0] at h
    obtain ⟨rfl, rfl⟩ := Prod.mk.inj (Option.some.inj h)
    have e0 := beq_iff_eq.mpr d0
    clear d0
    go_enter Try.func23, Try.ntmps23
    go_wp2
    refine wp_loop_rounds 5 ?_
    rw [rounds_succ]
    go_wp2
    go_quiet ((go_at_call 21; exact quiet_of_drawn (ring_At.calls _ _ _ _ _ A0.out)))
    go_wp2
    go_ret2
    exact ⟨by first | rfl | (simp; done), by repeat (first | exact Below.refl _ _ | apply below_alloc | apply pw_below_drewN | apply below_drew)⟩
  rw [if_neg d0] at h
  have e0 := beq_eq_false_iff_ne.mpr d0
  clear d0
  by_cases d1 : ring_at3 a0 a2 1 = a1
  · rw [if_pos d1] at h
    obtain ⟨rfl, rfl⟩ := Prod.mk.inj (Option.some.inj h)
    have e1 := beq_iff_eq.mpr d1
    clear d1
    go_enter Try.func23, Try.ntmps23
    go_wp2
    refine wp_loop_rounds 5 ?_
    rw [rounds_succ]
    go_wp2
    go_quiet ((go_at_call 21; exact quiet_of_drawn (ring_At.calls _ _ _ _ _ A0.out)))
    go_wp2
    rw [rounds_succ]
    go_wp2
    go_quiet ((go_at_call 21; exact quiet_of_drawn (ring_At.calls _ _ _ _ _ A1.out)))
    go_wp2
    go_ret2
    exact ⟨by first | rfl | (simp; done), by repeat (first | exact Below.refl _ _ | apply below_alloc | apply pw_below_drewN | apply below_drew)⟩
  rw [if_neg d1] at h
  have e1 := beq_eq_false_iff_ne.mpr d1
  clear d1
  by_cases d2 : ring_at3 a0 a1 2 = a2
  · rw [if_pos d2] at h
    obtain ⟨rfl, rfl⟩ := Prod.mk.inj (Option.some.inj h)
    have e2 := beq_iff_eq.mpr d2
    clear d2
    go_enter Try.func23, Try.ntmps23
    go_wp2
    refine wp_loop_rounds 5 ?_
    rw [rounds_succ]
    go_wp2
    go_quiet ((go_at_call 21; exact quiet_of_drawn (ring_At.calls _ _ _ _ _ A0.out)))
    go_wp2
    rw [rounds_succ]
    go_wp2
    go_quiet ((go_at_call 21; exact quiet_of_drawn (ring_At.calls _ _ _ _ _ A1.out)))
    go_wp2
    rw [rounds_succ]
    go_wp2
    go_quiet ((go_at_call 21; exact quiet_of_drawn (ring_At.calls _ _ _ _ _ A2.out)))
    go_wp2
    go_ret2
    exact ⟨by first | rfl | (simp; done), by repeat (first | exact Below.refl _ _ | apply below_alloc | apply pw_below_drewN | apply below_drew)⟩
  rw [if_neg d2] at h
  have e2 := beq_eq_false_iff_ne.mpr d2
  clear d2
  by_cases d3 : ring_at3 a0 a2 2 = a1
  · rw [if_pos d3] at h
    obtain ⟨rfl, rfl⟩ := Prod.mk.inj (Option.some.inj h)
    have e3 := beq_iff_eq.mpr d3
    clear d3
    go_enter Try.func23, Try.ntmps23
    go_wp2
    refine wp_loop_rounds 5 ?_
    rw [rounds_succ]
    go_wp2
    go_quiet ((go_at_call 21; exact quiet_of_drawn (ring_At.calls _ _ _ _ _ A0.out)))
    go_wp2
    rw [rounds_succ]
    go_wp2
    go_quiet ((go_at_call 21; exact quiet_of_drawn (ring_At.calls _ _ _ _ _ A1.out)))
    go_wp2
    rw [rounds_succ]
    go_wp2
    go_quiet ((go_at_call 21; exact quiet_of_drawn (ring_At.calls _ _ _ _ _ A2.out)))
    go_wp2
    rw [rounds_succ]
    go_wp2
    go_quiet ((go_at_call 21; exact quiet_of_drawn (ring_At.calls _ _ _ _ _ A3.out)))
    go_wp2
    go_ret2
    exact ⟨by first | rfl | (simp; done), by repeat (first | exact Below.refl _ _ | apply below_alloc | apply pw_below_drewN | apply below_drew)⟩
  rw [if_neg d3] at h
  have e3 := beq_eq_false_iff_ne.mpr d3
  clear d3
  obtain ⟨rfl, rfl⟩ := Prod.mk.inj (Option.some.inj h)
  go_enter Try.func23, Try.ntmps23
  go_wp2
  refine wp_loop_rounds 5 ?_
  rw [rounds_succ]
  go_wp2
  go_quiet ((go_at_call 21; exact quiet_of_drawn (ring_At.calls _ _ _ _ _ A0.out)))
  go_wp2
  rw [rounds_succ]
  go_wp2
  go_quiet ((go_at_call 21; exact quiet_of_drawn (ring_At.calls _ _ _ _ _ A1.out)))
  go_wp2
  rw [rounds_succ]
  go_wp2
  go_quiet ((go_at_call 21; exact quiet_of_drawn (ring_At.calls _ _ _ _ _ A2.out)))
  go_wp2
  rw [rounds_succ]
  go_wp2
  go_quiet ((go_at_call 21; exact quiet_of_drawn (ring_At.calls _ _ _ _ _ A3.out)))
  go_wp2
  rw [rounds_succ]
  go_wp2
  go_ret2
  exact ⟨by first | rfl | (simp; done), by repeat (first | exact Below.refl _ _ | apply below_alloc | apply pw_below_drewN | apply below_drew)⟩

end Go.Proofs.Ytdkbalaphblobaa.P
