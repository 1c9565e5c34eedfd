/- Printed by a program of this session (myprint) out of the translation: the functions as plain Lean functions, and that the calls compute them. What counts is Lean's check. -/
import Derived.Test.YtdkbalaphblobaaPx0
import Derived.Test.YtdkbalaphblobaaPx9
namespace Go.Proofs.Ytdkbalaphblobaa.P
open Go.RowKit Go.Proofs.YtdkbalaphblobaaW.PrintWords Go.Proofs.YtdkbalaphblobaaW.PrintLast Go.Proofs.YtdkbalaphblobaaW.PrintMore
attribute [local go_sem] max2_int min2_int max_two min_two max_three min_three max_four min_four   -- for this text's walks alone
set_option linter.unusedVariables false
set_option linter.unusedSimpArgs false

/-! ### conf_within: function 62 -/
def conf_within.f (a0 : Int) (a1 : Int) (a2 : Int) : Option (Bool) := if a0 ≥ a1 then (some (decide (a0 ≤ a2))) else (some false)
set_option maxHeartbeats 8000000 in
set_option maxRecDepth 100000 in
theorem conf_within.calls (a0 : Int) (a1 : Int) (a2 : Int) (r : Bool) (w : World) (h : conf_within.f a0 a1 a2 = some r) :
    Calls Try.prog 62 #[.int .i64 a0, .int .i64 a1, .int .i64 a2] w fun e w' => e = .returned (.bool r) ∧ Drawn0 w w' := by
  have H : (if a0 ≥ a1 then (some (decide (a0 ≤ a2))) else (some false)) = some r := h
  clear h
  by_cases c4 : a0 ≥ a1
  · rw [if_pos c4] at H
    have c4b0 : decide (a1 ≤ a0) = true := decide_eq_true c4
    clear c4
    obtain rfl := Option.some.inj H
    go_enter Try.func62, Try.ntmps62
    go_wp2
    go_ret
    exact ⟨by first | rfl | (simp; done) | (simp [*]; done), by repeat (first | exact Drawn0.refl _ | apply Drawn0.step)⟩
  · rw [if_neg c4] at H
    have c4b0 : decide (a1 ≤ a0) = false := decide_eq_false c4
    clear c4
    obtain rfl := Option.some.inj H
    go_enter Try.func62, Try.ntmps62
    go_wp2
    go_ret
    exact ⟨by first | rfl | (simp; done) | (simp [*]; done), by repeat (first | exact Drawn0.refl _ | apply Drawn0.step)⟩


/-! ### conf_Check: function 27 -/
theorem conf_within_eq (n a b : Int) : conf_within.f n a b = some (inb n a b) := by
  unfold conf_within.f inb
  by_cases h : a ≤ n
  · rw [if_pos h, decide_eq_true h, Bool.true_and]
  · rw [if_neg h, decide_eq_false h, Bool.false_and]
set_option maxHeartbeats 4000000 in
set_option maxRecDepth 100000 in
theorem slices_IndexFunc_int_any (p : Int → Bool) (g : Nat) (lb : Array Value) (A0 : Option Addr) (c0 : Nat) (l0 : List Int) (w : World) (hr0 : Kd.C (Kd.int .i64) w A0 l0.length l0)
    (eg : ∀ args w, (callFunc g args).run Try.prog w = .ok (.enter g args) w)
    (hp : ∀ x W, Drawn0 w W → Calls Try.prog g (#[.int .i64 x] ++ lb) W fun e w' => e = .returned (.bool (p x)) ∧ Drawn0 W w') :
    Calls Try.prog 74 #[.slice A0 l0.length c0, .func (.func g) #[] lb] w (IdxTells l0 p w) := by
  have HR0 := Aside0.mk hr0
  have HP := Aside0.mk hp
  have hbig : l0.length ≤ 9223372036854775807 := hr0.2.1
  clear hr0 hp
  go_enter Try.func74, Try.ntmps74
  go_wp2
  go_loopg [5, 8] l0.length (fun gg _ s8 wr => ∃ kk : Nat, kk ≤ l0.length ∧ l0.length - kk ≤ gg ∧ s8 = .int .i64 kk ∧ Drawn0 w wr ∧ Aside0 (∀ j, j < kk → p (l0.getD j 0) = false))
  case atStart => exact ⟨0, Nat.zero_le _, by omega, rfl, Drawn0.refl _, ⟨fun j hj => absurd hj (Nat.not_lt_zero _)⟩⟩
  case round =>
    obtain ⟨kk, hkk, hg, rfl, HD, AA⟩ := hrel
    by_cases hlt : kk < l0.length
    · have hltz : (kk : Int) < (l0.length : Int) := by omega
      obtain ⟨ad, e1, hx⟩ := Kd.at_int HR0.out kk (by omega) hltz
      cases e1
      rw [Int.toNat_natCast] at hx
      obtain ⟨m, rfl⟩ := HD.out
      have hcall := HP.out (rd l0 kk) (w.drewN m) HD
      have HQ : rd l0 kk = l0.getD kk 0 := by unfold rd; rw [Int.toNat_natCast]
      have HQ1 := Aside0.mk HQ
      clear HQ
      cases hq : p (rd l0 kk) with
      | true =>
        rw [hq] at hcall
        have HQ2 := Aside0.mk hq
        clear hq
        go_wp2_with fail
        refine hcall.mono ?_
        rintro e w' ⟨rfl, ⟨nd, rfl⟩⟩
        clear hcall
        go_wp2
        go_ret
        exact ⟨_, rfl, by rw [any_true_of l0 p 0 kk hlt (by rw [← HQ1.out]; exact HQ2.out)]; simp, ⟨⟨_, rfl⟩⟩⟩
      | false =>
        rw [hq] at hcall
        have HQ2 := Aside0.mk hq
        clear hq
        go_wp2_with fail
        refine hcall.mono ?_
        rintro e w' ⟨rfl, ⟨nd, rfl⟩⟩
        clear hcall
        go_wp2
        go_roundg (l0.length - (kk + 1))
        case measure => omega
        case rel =>
          refine ⟨kk + 1, by omega, by omega, by go_num, ⟨⟨_, rfl⟩⟩, ⟨fun j hj => ?_⟩⟩
          by_cases e : j = kk
          · subst e
            rw [← HQ1.out]; exact HQ2.out
          · exact AA.out j (by omega)
    · have hltz : ¬ (kk : Int) < (l0.length : Int) := by omega
      obtain ⟨m, rfl⟩ := HD.out
      have hk : kk = l0.length := by omega
      have AB := any_false_of l0 p 0 (fun j hj => AA.out j (by omega))
      have AC := Aside0.mk AB
      clear AB hk
      go_wp2
      go_ret
      exact ⟨_, rfl, by rw [AC.out]; simp, HD⟩

set_option maxHeartbeats 4000000 in
set_option maxRecDepth 100000 in
theorem slices_ContainsFunc_int_any (p : Int → Bool) (g : Nat) (lb : Array Value) (A0 : Option Addr) (c0 : Nat) (l0 : List Int) (w : World) (hr0 : Kd.C (Kd.int .i64) w A0 l0.length l0)
    (eg : ∀ args w, (callFunc g args).run Try.prog w = .ok (.enter g args) w)
    (hp : ∀ x W, Drawn0 w W → Calls Try.prog g (#[.int .i64 x] ++ lb) W fun e w' => e = .returned (.bool (p x)) ∧ Drawn0 W w') :
    Calls Try.prog 63 #[.slice A0 l0.length c0, .func (.func g) #[] lb] w fun e w' => e = .returned (.bool (l0.any p)) ∧ Drawn0 w w' := by
  have HC := Aside0.mk (slices_IndexFunc_int_any p g lb A0 c0 l0 w hr0 eg hp)
  clear hr0 hp
  go_enter Try.func63, Try.ntmps63
  go_wp2_with fail
  refine HC.out.mono ?_
  rintro e w' ⟨i, rfl, hi, ⟨nd, rfl⟩⟩
  have HI := Aside0.mk hi
  clear hi
  go_wp2
  go_ret
  exact ⟨by rw [← HI.out]; rfl, ⟨⟨_, rfl⟩⟩⟩
set_option maxHeartbeats 4000000 in
set_option maxRecDepth 100000 in
theorem conf_Check_closure (n x : Int) (B : Nat) (W : World) (hc : W.cell? ⟨B, 0, none⟩ = some (.int .i64 n)) :
    Calls Try.prog 64 #[.int .i64 x, .pointer (some ⟨B, 0, none⟩)] W fun e w' => e = .returned (.bool (!inb x (-1) (wrap64 (n - 1)))) ∧ Drawn0 W w' := by
  have HE := Aside0.mk (conf_within_eq x (-1) (wrap64 (n - 1)))
  go_enter Try.func64, Try.ntmps64
  go_wp2_with (go_at_call 62; refine (conf_within.calls _ _ _ _ _ HE.out).mono ?_; rintro e w' ⟨rfl, ⟨nd, rfl⟩⟩)
  go_ret
  exact ⟨rfl, ⟨⟨_, rfl⟩⟩⟩
def conf_Check.f (a0_0 : Int) (a0_1 : Int) (a0_2 : Int) (a0_3 : Int) (a0_4 : Int) (l0_5 : List Int) : Option Int :=
  if inb a0_0 6 12 = false then some 1 else if inb a0_2 0 100 = false then some 1 else if inb a0_3 0 100 = false then some 1 else if inb a0_4 0 65535 = false then some 1 else
  if inb a0_1 (4 * (a0_2 + a0_3 + 1)) 10000 = false then some 1 else if l0_5.length > 3 then some 2 else
  if l0_5.any (fun x => !inb x (-1) (a0_0 - 1)) = true then some 1 else some 0
set_option maxHeartbeats 8000000 in
set_option maxRecDepth 100000 in
theorem conf_Check.calls (a0_0 : Int) (a0_1 : Int) (a0_2 : Int) (a0_3 : Int) (a0_4 : Int) (A0_5 : Option Addr) (c0_5 : Nat) (l0_5 : List Int) (r : Int) (w : World) (hr0_5 : Kd.C (Kd.int .i64) w A0_5 l0_5.length l0_5) (hc0_5 : l0_5.length ≤ c0_5) (h : conf_Check.f a0_0 a0_1 a0_2 a0_3 a0_4 l0_5 = some r) :
    Calls Try.prog 27 #[.agg #[.int .i64 a0_0, .int .i64 a0_1, .int .i64 a0_2, .int .i64 a0_3, .int .i64 a0_4, .slice A0_5 l0_5.length c0_5]] w fun e w' => e = .returned (.int .i64 r) ∧ Below w.heap.size w w' := by
  unfold conf_Check.f at h
  have HN := Aside0.mk (conf_within_eq a0_0 6 12)
  have HE := Aside0.mk (conf_within_eq a0_2 0 100)
  have HG := Aside0.mk (conf_within_eq a0_3 0 100)
  have HF := Aside0.mk (conf_within_eq a0_4 0 65535)
  have i0 : ∀ W, (Instr.index 68 (.agg #[.int .i64 a0_0, .int .i64 a0_2, .int .i64 a0_3, .int .i64 a0_4]) (.int .i64 0)).run Try.prog W = .ok (.int .i64 a0_0) W := fun _ => by kernel_rfl
  have i1 : ∀ W, (Instr.index 68 (.agg #[.int .i64 a0_0, .int .i64 a0_2, .int .i64 a0_3, .int .i64 a0_4]) (.int .i64 1)).run Try.prog W = .ok (.int .i64 a0_2) W := fun _ => by kernel_rfl
  have i2 : ∀ W, (Instr.index 68 (.agg #[.int .i64 a0_0, .int .i64 a0_2, .int .i64 a0_3, .int .i64 a0_4]) (.int .i64 2)).run Try.prog W = .ok (.int .i64 a0_3) W := fun _ => by kernel_rfl
  have i3 : ∀ W, (Instr.index 68 (.agg #[.int .i64 a0_0, .int .i64 a0_2, .int .i64 a0_3, .int .i64 a0_4]) (.int .i64 3)).run Try.prog W = .ok (.int .i64 a0_4) W := fun _ => by kernel_rfl
  cases hN : inb a0_0 6 12 with
  | false =>
    rw [if_pos hN] at h
    obtain rfl := Option.some.inj h
    rw [hN] at HN
    clear hN h
    go_enter Try.func27, Try.ntmps27
    go_wp2
    refine wp_loop_rounds 5 ?_
    rw [rounds_succ]
    go_wp2
    go_quiet ((go_at_call 62; first | exact quiet_of_drawn (conf_within.calls _ _ _ _ _ HN.out) | exact quiet_add_drawn (conf_within.calls _ _ _ _ _ HN.out)))
    go_wp2
    go_ret
    exact ⟨by first | rfl | (simp; done), by repeat (first | exact Below.refl _ _ | apply below_alloc | apply pw_below_drewN | apply below_drew)⟩
  | true =>
    rw [if_neg (by rw [hN]; decide)] at h
    rw [hN] at HN
    obtain ⟨bN1, bN2⟩ := inb_iff.1 hN
    clear hN
    cases hE : inb a0_2 0 100 with
    | false =>
      rw [if_pos hE] at h
      obtain rfl := Option.some.inj h
      rw [hE] at HE
      clear hE h
      go_enter Try.func27, Try.ntmps27
      go_wp2
      refine wp_loop_rounds 5 ?_
      rw [rounds_succ]
      go_wp2
      go_quiet ((go_at_call 62; first | exact quiet_of_drawn (conf_within.calls _ _ _ _ _ HN.out) | exact quiet_add_drawn (conf_within.calls _ _ _ _ _ HN.out)))
      go_wp2
      rw [rounds_succ]
      go_wp2
      go_quiet ((go_at_call 62; first | exact quiet_of_drawn (conf_within.calls _ _ _ _ _ HE.out) | exact quiet_add_drawn (conf_within.calls _ _ _ _ _ HE.out)))
      go_wp2
      go_ret
      exact ⟨by first | rfl | (simp; done), by repeat (first | exact Below.refl _ _ | apply below_alloc | apply pw_below_drewN | apply below_drew)⟩
    | true =>
      rw [if_neg (by rw [hE]; decide)] at h
      rw [hE] at HE
      obtain ⟨bE1, bE2⟩ := inb_iff.1 hE
      clear hE
      cases hG : inb a0_3 0 100 with
      | false =>
        rw [if_pos hG] at h
        obtain rfl := Option.some.inj h
        rw [hG] at HG
        clear hG h
        go_enter Try.func27, Try.ntmps27
        go_wp2
        refine wp_loop_rounds 5 ?_
        rw [rounds_succ]
        go_wp2
        go_quiet ((go_at_call 62; first | exact quiet_of_drawn (conf_within.calls _ _ _ _ _ HN.out) | exact quiet_add_drawn (conf_within.calls _ _ _ _ _ HN.out)))
        go_wp2
        rw [rounds_succ]
        go_wp2
        go_quiet ((go_at_call 62; first | exact quiet_of_drawn (conf_within.calls _ _ _ _ _ HE.out) | exact quiet_add_drawn (conf_within.calls _ _ _ _ _ HE.out)))
        go_wp2
        rw [rounds_succ]
        go_wp2
        go_quiet ((go_at_call 62; first | exact quiet_of_drawn (conf_within.calls _ _ _ _ _ HG.out) | exact quiet_add_drawn (conf_within.calls _ _ _ _ _ HG.out)))
        go_wp2
        go_ret
        exact ⟨by first | rfl | (simp; done), by repeat (first | exact Below.refl _ _ | apply below_alloc | apply pw_below_drewN | apply below_drew)⟩
      | true =>
        rw [if_neg (by rw [hG]; decide)] at h
        rw [hG] at HG
        obtain ⟨bG1, bG2⟩ := inb_iff.1 hG
        clear hG
        cases hF : inb a0_4 0 65535 with
        | false =>
          rw [if_pos hF] at h
          obtain rfl := Option.some.inj h
          rw [hF] at HF
          clear hF h
          go_enter Try.func27, Try.ntmps27
          go_wp2
          refine wp_loop_rounds 5 ?_
          rw [rounds_succ]
          go_wp2
          go_quiet ((go_at_call 62; first | exact quiet_of_drawn (conf_within.calls _ _ _ _ _ HN.out) | exact quiet_add_drawn (conf_within.calls _ _ _ _ _ HN.out)))
          go_wp2
          rw [rounds_succ]
          go_wp2
          go_quiet ((go_at_call 62; first | exact quiet_of_drawn (conf_within.calls _ _ _ _ _ HE.out) | exact quiet_add_drawn (conf_within.calls _ _ _ _ _ HE.out)))
          go_wp2
          rw [rounds_succ]
          go_wp2
          go_quiet ((go_at_call 62; first | exact quiet_of_drawn (conf_within.calls _ _ _ _ _ HG.out) | exact quiet_add_drawn (conf_within.calls _ _ _ _ _ HG.out)))
          go_wp2
          rw [rounds_succ]
          go_wp2
          go_quiet ((go_at_call 62; first | exact quiet_of_drawn (conf_within.calls _ _ _ _ _ HF.out) | exact quiet_add_drawn (conf_within.calls _ _ _ _ _ HF.out)))
          go_wp2
          go_ret
          exact ⟨by first | rfl | (simp; done), by repeat (first | exact Below.refl _ _ | apply below_alloc | apply pw_below_drewN | apply below_drew)⟩
        | true =>
          rw [if_neg (by rw [hF]; decide)] at h
          rw [hF] at HF
          clear hF
          have HP := Aside0.mk (conf_within_eq a0_1 (4 * (a0_2 + a0_3 + 1)) 10000)
          cases hP : inb a0_1 (4 * (a0_2 + a0_3 + 1)) 10000 with
          | false =>
            rw [if_pos hP] at h
            obtain rfl := Option.some.inj h
            rw [hP] at HP
            clear hP h
            go_enter Try.func27, Try.ntmps27
            go_wp2
            refine wp_loop_rounds 5 ?_
            rw [rounds_succ]
            go_wp2
            go_quiet ((go_at_call 62; first | exact quiet_of_drawn (conf_within.calls _ _ _ _ _ HN.out) | exact quiet_add_drawn (conf_within.calls _ _ _ _ _ HN.out)))
            go_wp2
            rw [rounds_succ]
            go_wp2
            go_quiet ((go_at_call 62; first | exact quiet_of_drawn (conf_within.calls _ _ _ _ _ HE.out) | exact quiet_add_drawn (conf_within.calls _ _ _ _ _ HE.out)))
            go_wp2
            rw [rounds_succ]
            go_wp2
            go_quiet ((go_at_call 62; first | exact quiet_of_drawn (conf_within.calls _ _ _ _ _ HG.out) | exact quiet_add_drawn (conf_within.calls _ _ _ _ _ HG.out)))
            go_wp2
            rw [rounds_succ]
            go_wp2
            go_quiet ((go_at_call 62; first | exact quiet_of_drawn (conf_within.calls _ _ _ _ _ HF.out) | exact quiet_add_drawn (conf_within.calls _ _ _ _ _ HF.out)))
            go_wp2
            rw [rounds_succ]
            go_wp2_with (go_at_call 62; refine (conf_within.calls _ _ _ _ _ HP.out).mono ?_; rintro e w' ⟨rfl, ⟨nd, rfl⟩⟩)
            go_ret
            exact ⟨by first | rfl | (simp; done), by repeat (first | exact Below.refl _ _ | apply below_alloc | apply pw_below_drewN | apply below_drew)⟩
          | true =>
            rw [if_neg (by rw [hP]; decide)] at h
            rw [hP] at HP
            clear hP
            have HR := Aside0.mk hr0_5
            clear hr0_5
            by_cases hL : l0_5.length > 3
            · rw [if_pos hL] at h
              obtain rfl := Option.some.inj h
              have hL2 : decide ((3 : Int) < (l0_5.length : Int)) = true := decide_eq_true (by omega)
              clear h
              go_enter Try.func27, Try.ntmps27
              go_wp2
              refine wp_loop_rounds 5 ?_
              rw [rounds_succ]
              go_wp2
              go_quiet ((go_at_call 62; first | exact quiet_of_drawn (conf_within.calls _ _ _ _ _ HN.out) | exact quiet_add_drawn (conf_within.calls _ _ _ _ _ HN.out)))
              go_wp2
              rw [rounds_succ]
              go_wp2
              go_quiet ((go_at_call 62; first | exact quiet_of_drawn (conf_within.calls _ _ _ _ _ HE.out) | exact quiet_add_drawn (conf_within.calls _ _ _ _ _ HE.out)))
              go_wp2
              rw [rounds_succ]
              go_wp2
              go_quiet ((go_at_call 62; first | exact quiet_of_drawn (conf_within.calls _ _ _ _ _ HG.out) | exact quiet_add_drawn (conf_within.calls _ _ _ _ _ HG.out)))
              go_wp2
              rw [rounds_succ]
              go_wp2
              go_quiet ((go_at_call 62; first | exact quiet_of_drawn (conf_within.calls _ _ _ _ _ HF.out) | exact quiet_add_drawn (conf_within.calls _ _ _ _ _ HF.out)))
              go_wp2
              rw [rounds_succ]
              go_wp2_with (go_at_call 62; refine (conf_within.calls _ _ _ _ _ HP.out).mono ?_; rintro e w' ⟨rfl, ⟨nd, rfl⟩⟩)
              go_ret
              exact ⟨by first | rfl | (simp; done), by repeat (first | exact Below.refl _ _ | apply below_alloc | apply pw_below_drewN | apply below_drew)⟩
            rw [if_neg hL] at h
            have hL2 : decide ((3 : Int) < (l0_5.length : Int)) = false := decide_eq_false (by omega)
            have HX := Aside0.mk h
            clear h
            go_enter Try.func27, Try.ntmps27
            go_wp2
            refine wp_loop_rounds 5 ?_
            rw [rounds_succ]
            go_wp2
            go_quiet ((go_at_call 62; first | exact quiet_of_drawn (conf_within.calls _ _ _ _ _ HN.out) | exact quiet_add_drawn (conf_within.calls _ _ _ _ _ HN.out)))
            go_wp2
            rw [rounds_succ]
            go_wp2
            go_quiet ((go_at_call 62; first | exact quiet_of_drawn (conf_within.calls _ _ _ _ _ HE.out) | exact quiet_add_drawn (conf_within.calls _ _ _ _ _ HE.out)))
            go_wp2
            rw [rounds_succ]
            go_wp2
            go_quiet ((go_at_call 62; first | exact quiet_of_drawn (conf_within.calls _ _ _ _ _ HG.out) | exact quiet_add_drawn (conf_within.calls _ _ _ _ _ HG.out)))
            go_wp2
            rw [rounds_succ]
            go_wp2
            go_quiet ((go_at_call 62; first | exact quiet_of_drawn (conf_within.calls _ _ _ _ _ HF.out) | exact quiet_add_drawn (conf_within.calls _ _ _ _ _ HF.out)))
            go_wp2
            rw [rounds_succ]
            go_wp2_with (go_at_call 62; refine (conf_within.calls _ _ _ _ _ HP.out).mono ?_; rintro e w' ⟨rfl, ⟨nd, rfl⟩⟩)
            have HW := Aside0.mk (show wrap64 (a0_0 - 1) = a0_0 - 1 by unfold wrap64; omega)
            refine (slices_ContainsFunc_int_any (fun x => !inb x (-1) (a0_0 - 1)) 64 #[.pointer (some ⟨w.heap.size, 0, none⟩)] A0_5 c0_5 l0_5 _ (Kd.C_below HR.out (by repeat (first | exact Below.refl _ _ | apply pw_below_drewN | apply below_drew | apply below_alloc))) (enters_at Try.func64 (by kernel_rfl) rfl) ?_).mono ?_
            · rintro x W ⟨nd, rfl⟩
              have hcl := conf_Check_closure a0_0 x w.heap.size
              rw [HW.out] at hcl
              exact hcl _ (by go_simp)
            rintro e w' ⟨rfl, ⟨nd, rfl⟩⟩
            have h := HX.out
            by_cases hA : (l0_5.any fun x => !inb x (-1) (a0_0 - 1)) = true
            · rw [if_pos hA] at h
              obtain rfl := Option.some.inj h
              rw [hA]
              clear h HX hA
              go_wp2
              go_ret
              exact ⟨by first | rfl | (simp; done), by repeat (first | exact Below.refl _ _ | apply below_alloc | apply pw_below_drewN | apply below_drew)⟩
            · rw [if_neg hA] at h
              obtain rfl := Option.some.inj h
              rw [Bool.not_eq_true] at hA
              rw [hA]
              clear h HX hA
              go_wp2
              go_ret
              exact ⟨by first | rfl | (simp; done), by repeat (first | exact Below.refl _ _ | apply below_alloc | apply pw_below_drewN | apply below_drew)⟩

/-! ### conf_Most: function 31 -/
def conf_Most.f (a0_0 : Int) (a0_1 : Int) (a0_2 : Int) (a0_3 : Int) (a0_4 : Int) (l0_5 : List Int) : Option (Int) := some (wrap64 ((wrap64 (Int.tdiv a0_0 2)) + 1))
set_option maxHeartbeats 8000000 in
set_option maxRecDepth 100000 in
theorem conf_Most.calls (a0_0 : Int) (a0_1 : Int) (a0_2 : Int) (a0_3 : Int) (a0_4 : Int) (A0_5 : Option Addr) (c0_5 : Nat) (l0_5 : List Int) (r : Int) (w : World) (hr0_5 : Kd.C (Kd.int .i64) w A0_5 l0_5.length l0_5) (hc0_5 : l0_5.length ≤ c0_5) (h : conf_Most.f a0_0 a0_1 a0_2 a0_3 a0_4 l0_5 = some r) :
    Calls Try.prog 31 #[.agg #[.int .i64 a0_0, .int .i64 a0_1, .int .i64 a0_2, .int .i64 a0_3, .int .i64 a0_4, .slice A0_5 l0_5.length c0_5]] w fun e w' => e = .returned (.int .i64 r) ∧ Below w.heap.size w w' := by
  have hu35 := Try.underlying35
  have HR0_5 := Aside0.mk hr0_5
  have HC0_5 := Aside0.mk hc0_5
  clear hr0_5 hc0_5
  have HB := Aside0.mk (Below.refl w.heap.size w)
  have H : (some (wrap64 ((wrap64 (Int.tdiv a0_0 2)) + 1))) = some r := h
  clear h
  obtain rfl := Option.some.inj H
  go_enter Try.func31, Try.ntmps31
  go_wp2_with (first | ((with_reducible refine gate_dst (N := 1) rfl ?_); refine box_event ?hg (N := 1) ?hd (cs := #[.int .i64 a0_0, .int .i64 a0_1, .int .i64 a0_2, .int .i64 a0_3, .int .i64 a0_4, .slice A0_5 l0_5.length c0_5]) (t := 35) ?hr ?_; (case hd => rfl); (case hg => rfl); (case hr => first | (go_simp; done) | (go_simp; rfl)); intro gb62101 hg w2 hbox hb; have n0_ := Aside0.mk (below_step (by repeat (first | (with_reducible first | exact HB.out | apply below_alloc | apply pw_below_drewN | apply below_drew1) | exact HB.out)) hb); have n1_ := Aside0.mk (hbox); have n2_ := Aside0.mk ((by rw [hg]; exact (below_size (by repeat (first | (with_reducible first | exact HB.out | apply below_alloc | apply pw_below_drewN | apply below_drew1) | exact HB.out))) : w.heap.size ≤ gb62101)); have n3_ := Aside0.mk ((by rw [hg]; exact (below_size (by repeat (first | (with_reducible first | exact HB.out | apply below_alloc | apply pw_below_drewN | apply below_drew1) | exact HB.out))) : w.heap.size ≤ gb62101)); clear HB; have HB := n0_; have BK62101 := n1_; have GW62101 := n2_; have GE62101 := n3_; clear n0_ n1_ n2_ n3_; clear hb hbox hg; have hcz3_0 : w2.cell? ⟨gb62101, 0, none⟩ = some (.int .i64 a0_0) := (blk_cell BK62101.out 0).trans rfl; have hcz3_1 : w2.cell? ⟨gb62101, 1, none⟩ = some (.int .i64 a0_1) := (blk_cell BK62101.out 1).trans rfl; have hcz3_2 : w2.cell? ⟨gb62101, 2, none⟩ = some (.int .i64 a0_2) := (blk_cell BK62101.out 2).trans rfl; have hcz3_3 : w2.cell? ⟨gb62101, 3, none⟩ = some (.int .i64 a0_3) := (blk_cell BK62101.out 3).trans rfl; have hcz3_4 : w2.cell? ⟨gb62101, 4, none⟩ = some (.int .i64 a0_4) := (blk_cell BK62101.out 4).trans rfl; have hcz3_5 : w2.cell? ⟨gb62101, 5, none⟩ = some (.slice A0_5 l0_5.length c0_5) := (blk_cell BK62101.out 5).trans rfl; have hfz3_0 := blk_frozen BK62101.out 0; have hfz3_1 := blk_frozen BK62101.out 1; have hfz3_2 := blk_frozen BK62101.out 2; have hfz3_3 := blk_frozen BK62101.out 3; have hfz3_4 := blk_frozen BK62101.out 4; have hfz3_5 := blk_frozen BK62101.out 5))
  go_ret
  exact ⟨by first | rfl | (simp [errW_none, errW_some] <;> rfl) | (simp [*, errW_none, errW_some] <;> rfl), by repeat (first | (with_reducible first | exact HB.out | apply below_alloc | apply pw_below_drewN | apply below_drew1 | refine below_set ?_ GE62101.out) | exact HB.out)⟩

/-! ### conf_Slots: function 54 -/
def conf_Slots.f (a0_0 : Int) (a0_1 : Int) (a0_2 : Int) (a0_3 : Int) (a0_4 : Int) (l0_5 : List Int) : Option (Int) := some (wrap64 (a0_0 + (l0_5.length : Int)))
set_option maxHeartbeats 8000000 in
set_option maxRecDepth 100000 in
theorem conf_Slots.calls (a0_0 : Int) (a0_1 : Int) (a0_2 : Int) (a0_3 : Int) (a0_4 : Int) (A0_5 : Option Addr) (c0_5 : Nat) (l0_5 : List Int) (r : Int) (w : World) (hr0_5 : Kd.C (Kd.int .i64) w A0_5 l0_5.length l0_5) (hc0_5 : l0_5.length ≤ c0_5) (h : conf_Slots.f a0_0 a0_1 a0_2 a0_3 a0_4 l0_5 = some r) :
    Calls Try.prog 54 #[.agg #[.int .i64 a0_0, .int .i64 a0_1, .int .i64 a0_2, .int .i64 a0_3, .int .i64 a0_4, .slice A0_5 l0_5.length c0_5]] w fun e w' => e = .returned (.int .i64 r) ∧ Below w.heap.size w w' := by
  have hu35 := Try.underlying35
  have HR0_5 := Aside0.mk hr0_5
  have HC0_5 := Aside0.mk hc0_5
  clear hr0_5 hc0_5
  have HB := Aside0.mk (Below.refl w.heap.size w)
  have H : (some (wrap64 (a0_0 + (l0_5.length : Int)))) = some r := h
  clear h
  obtain rfl := Option.some.inj H
  go_enter Try.func54, Try.ntmps54
  go_wp2_with (first | ((with_reducible refine gate_dst (N := 1) rfl ?_); refine box_event ?hg (N := 1) ?hd (cs := #[.int .i64 a0_0, .int .i64 a0_1, .int .i64 a0_2, .int .i64 a0_3, .int .i64 a0_4, .slice A0_5 l0_5.length c0_5]) (t := 35) ?hr ?_; (case hd => rfl); (case hg => rfl); (case hr => first | (go_simp; done) | (go_simp; rfl)); intro gb108101 hg w2 hbox hb; have n0_ := Aside0.mk (below_step (by repeat (first | (with_reducible first | exact HB.out | apply below_alloc | apply pw_below_drewN | apply below_drew1) | exact HB.out)) hb); have n1_ := Aside0.mk (hbox); have n2_ := Aside0.mk ((by rw [hg]; exact (below_size (by repeat (first | (with_reducible first | exact HB.out | apply below_alloc | apply pw_below_drewN | apply below_drew1) | exact HB.out))) : w.heap.size ≤ gb108101)); have n3_ := Aside0.mk ((by rw [hg]; exact (below_size (by repeat (first | (with_reducible first | exact HB.out | apply below_alloc | apply pw_below_drewN | apply below_drew1) | exact HB.out))) : w.heap.size ≤ gb108101)); clear HB; have HB := n0_; have BK108101 := n1_; have GW108101 := n2_; have GE108101 := n3_; clear n0_ n1_ n2_ n3_; clear hb hbox hg; have hcz3_0 : w2.cell? ⟨gb108101, 0, none⟩ = some (.int .i64 a0_0) := (blk_cell BK108101.out 0).trans rfl; have hcz3_1 : w2.cell? ⟨gb108101, 1, none⟩ = some (.int .i64 a0_1) := (blk_cell BK108101.out 1).trans rfl; have hcz3_2 : w2.cell? ⟨gb108101, 2, none⟩ = some (.int .i64 a0_2) := (blk_cell BK108101.out 2).trans rfl; have hcz3_3 : w2.cell? ⟨gb108101, 3, none⟩ = some (.int .i64 a0_3) := (blk_cell BK108101.out 3).trans rfl; have hcz3_4 : w2.cell? ⟨gb108101, 4, none⟩ = some (.int .i64 a0_4) := (blk_cell BK108101.out 4).trans rfl; have hcz3_5 : w2.cell? ⟨gb108101, 5, none⟩ = some (.slice A0_5 l0_5.length c0_5) := (blk_cell BK108101.out 5).trans rfl; have hfz3_0 := blk_frozen BK108101.out 0; have hfz3_1 := blk_frozen BK108101.out 1; have hfz3_2 := blk_frozen BK108101.out 2; have hfz3_3 := blk_frozen BK108101.out 3; have hfz3_4 := blk_frozen BK108101.out 4; have hfz3_5 := blk_frozen BK108101.out 5))
  go_ret
  exact ⟨by first | rfl | (simp [errW_none, errW_some] <;> rfl) | (simp [*, errW_none, errW_some] <;> rfl), by repeat (first | (with_reducible first | exact HB.out | apply below_alloc | apply pw_below_drewN | apply below_drew1 | refine below_set ?_ GE108101.out) | exact HB.out)⟩

/-! ### conf_Wire: function 30 -/
def conf_Wire.f (a0_0 : Int) (a0_1 : Int) (a0_2 : Int) (a0_3 : Int) (a0_4 : Int) (l0_5 : List Int) (a1 : Int) : Option (Int) := some (Go.bits .and .i64 (wrap64 (a0_4 + a1)) 65535)
set_option maxHeartbeats 8000000 in
set_option maxRecDepth 100000 in
theorem conf_Wire.calls (a0_0 : Int) (a0_1 : Int) (a0_2 : Int) (a0_3 : Int) (a0_4 : Int) (A0_5 : Option Addr) (c0_5 : Nat) (l0_5 : List Int) (a1 : Int) (r : Int) (w : World) (hr0_5 : Kd.C (Kd.int .i64) w A0_5 l0_5.length l0_5) (hc0_5 : l0_5.length ≤ c0_5) (h : conf_Wire.f a0_0 a0_1 a0_2 a0_3 a0_4 l0_5 a1 = some r) :
    Calls Try.prog 30 #[.agg #[.int .i64 a0_0, .int .i64 a0_1, .int .i64 a0_2, .int .i64 a0_3, .int .i64 a0_4, .slice A0_5 l0_5.length c0_5], .int .i64 a1] w fun e w' => e = .returned (.int .i64 r) ∧ Below w.heap.size w w' := by
  have hu35 := Try.underlying35
  have HR0_5 := Aside0.mk hr0_5
  have HC0_5 := Aside0.mk hc0_5
  clear hr0_5 hc0_5
  have HB := Aside0.mk (Below.refl w.heap.size w)
  have H : (some (Go.bits .and .i64 (wrap64 (a0_4 + a1)) 65535)) = some r := h
  clear h
  obtain rfl := Option.some.inj H
  go_enter Try.func30, Try.ntmps30
  go_wp2_with (first | ((with_reducible refine gate_dst (N := 2) rfl ?_); refine box_event ?hg (N := 2) ?hd (cs := #[.int .i64 a0_0, .int .i64 a0_1, .int .i64 a0_2, .int .i64 a0_3, .int .i64 a0_4, .slice A0_5 l0_5.length c0_5]) (t := 35) ?hr ?_; (case hd => rfl); (case hg => rfl); (case hr => first | (go_simp; done) | (go_simp; rfl)); intro gb60101 hg w3 hbox hb; have n0_ := Aside0.mk (below_step (by repeat (first | (with_reducible first | exact HB.out | apply below_alloc | apply pw_below_drewN | apply below_drew1) | exact HB.out)) hb); have n1_ := Aside0.mk (hbox); have n2_ := Aside0.mk ((by rw [hg]; exact (below_size (by repeat (first | (with_reducible first | exact HB.out | apply below_alloc | apply pw_below_drewN | apply below_drew1) | exact HB.out))) : w.heap.size ≤ gb60101)); have n3_ := Aside0.mk ((by rw [hg]; exact (below_size (by repeat (first | (with_reducible first | exact HB.out | apply below_alloc | apply pw_below_drewN | apply below_drew1) | exact HB.out))) : w.heap.size ≤ gb60101)); clear HB; have HB := n0_; have BK60101 := n1_; have GW60101 := n2_; have GE60101 := n3_; clear n0_ n1_ n2_ n3_; clear hb hbox hg; have hcz4_0 : w3.cell? ⟨gb60101, 0, none⟩ = some (.int .i64 a0_0) := (blk_cell BK60101.out 0).trans rfl; have hcz4_1 : w3.cell? ⟨gb60101, 1, none⟩ = some (.int .i64 a0_1) := (blk_cell BK60101.out 1).trans rfl; have hcz4_2 : w3.cell? ⟨gb60101, 2, none⟩ = some (.int .i64 a0_2) := (blk_cell BK60101.out 2).trans rfl; have hcz4_3 : w3.cell? ⟨gb60101, 3, none⟩ = some (.int .i64 a0_3) := (blk_cell BK60101.out 3).trans rfl; have hcz4_4 : w3.cell? ⟨gb60101, 4, none⟩ = some (.int .i64 a0_4) := (blk_cell BK60101.out 4).trans rfl; have hcz4_5 : w3.cell? ⟨gb60101, 5, none⟩ = some (.slice A0_5 l0_5.length c0_5) := (blk_cell BK60101.out 5).trans rfl; have hfz4_0 := blk_frozen BK60101.out 0; have hfz4_1 := blk_frozen BK60101.out 1; have hfz4_2 := blk_frozen BK60101.out 2; have hfz4_3 := blk_frozen BK60101.out 3; have hfz4_4 := blk_frozen BK60101.out 4; have hfz4_5 := blk_frozen BK60101.out 5))
  go_ret
  exact ⟨by first | rfl | (simp [errW_none, errW_some] <;> rfl) | (simp [*, errW_none, errW_some] <;> rfl), by repeat (first | (with_reducible first | exact HB.out | apply below_alloc | apply pw_below_drewN | apply below_drew1 | refine below_set ?_ GE60101.out) | exact HB.out)⟩

/-! ### conf_Limit: function 32 -/
def conf_Limit.f (a0_0 : Int) (a0_1 : Int) (a0_2 : Int) (a0_3 : Int) (a0_4 : Int) (l0_5 : List Int) : Option (Int) := some (wrap64 ((wrap64 (4 * a0_0)) + 8))
set_option maxHeartbeats 8000000 in
set_option maxRecDepth 100000 in
theorem conf_Limit.calls (a0_0 : Int) (a0_1 : Int) (a0_2 : Int) (a0_3 : Int) (a0_4 : Int) (A0_5 : Option Addr) (c0_5 : Nat) (l0_5 : List Int) (r : Int) (w : World) (hr0_5 : Kd.C (Kd.int .i64) w A0_5 l0_5.length l0_5) (hc0_5 : l0_5.length ≤ c0_5) (h : conf_Limit.f a0_0 a0_1 a0_2 a0_3 a0_4 l0_5 = some r) :
    Calls Try.prog 32 #[.agg #[.int .i64 a0_0, .int .i64 a0_1, .int .i64 a0_2, .int .i64 a0_3, .int .i64 a0_4, .slice A0_5 l0_5.length c0_5]] w fun e w' => e = .returned (.int .i64 r) ∧ Below w.heap.size w w' := by
  have hu35 := Try.underlying35
  have HR0_5 := Aside0.mk hr0_5
  have HC0_5 := Aside0.mk hc0_5
  clear hr0_5 hc0_5
  have HB := Aside0.mk (Below.refl w.heap.size w)
  have H : (some (wrap64 ((wrap64 (4 * a0_0)) + 8))) = some r := h
  clear h
  obtain rfl := Option.some.inj H
  go_enter Try.func32, Try.ntmps32
  go_wp2_with (first | ((with_reducible refine gate_dst (N := 1) rfl ?_); refine box_event ?hg (N := 1) ?hd (cs := #[.int .i64 a0_0, .int .i64 a0_1, .int .i64 a0_2, .int .i64 a0_3, .int .i64 a0_4, .slice A0_5 l0_5.length c0_5]) (t := 35) ?hr ?_; (case hd => rfl); (case hg => rfl); (case hr => first | (go_simp; done) | (go_simp; rfl)); intro gb64101 hg w2 hbox hb; have n0_ := Aside0.mk (below_step (by repeat (first | (with_reducible first | exact HB.out | apply below_alloc | apply pw_below_drewN | apply below_drew1) | exact HB.out)) hb); have n1_ := Aside0.mk (hbox); have n2_ := Aside0.mk ((by rw [hg]; exact (below_size (by repeat (first | (with_reducible first | exact HB.out | apply below_alloc | apply pw_below_drewN | apply below_drew1) | exact HB.out))) : w.heap.size ≤ gb64101)); have n3_ := Aside0.mk ((by rw [hg]; exact (below_size (by repeat (first | (with_reducible first | exact HB.out | apply below_alloc | apply pw_below_drewN | apply below_drew1) | exact HB.out))) : w.heap.size ≤ gb64101)); clear HB; have HB := n0_; have BK64101 := n1_; have GW64101 := n2_; have GE64101 := n3_; clear n0_ n1_ n2_ n3_; clear hb hbox hg; have hcz3_0 : w2.cell? ⟨gb64101, 0, none⟩ = some (.int .i64 a0_0) := (blk_cell BK64101.out 0).trans rfl; have hcz3_1 : w2.cell? ⟨gb64101, 1, none⟩ = some (.int .i64 a0_1) := (blk_cell BK64101.out 1).trans rfl; have hcz3_2 : w2.cell? ⟨gb64101, 2, none⟩ = some (.int .i64 a0_2) := (blk_cell BK64101.out 2).trans rfl; have hcz3_3 : w2.cell? ⟨gb64101, 3, none⟩ = some (.int .i64 a0_3) := (blk_cell BK64101.out 3).trans rfl; have hcz3_4 : w2.cell? ⟨gb64101, 4, none⟩ = some (.int .i64 a0_4) := (blk_cell BK64101.out 4).trans rfl; have hcz3_5 : w2.cell? ⟨gb64101, 5, none⟩ = some (.slice A0_5 l0_5.length c0_5) := (blk_cell BK64101.out 5).trans rfl; have hfz3_0 := blk_frozen BK64101.out 0; have hfz3_1 := blk_frozen BK64101.out 1; have hfz3_2 := blk_frozen BK64101.out 2; have hfz3_3 := blk_frozen BK64101.out 3; have hfz3_4 := blk_frozen BK64101.out 4; have hfz3_5 := blk_frozen BK64101.out 5))
  go_ret
  exact ⟨by first | rfl | (simp [errW_none, errW_some] <;> rfl) | (simp [*, errW_none, errW_some] <;> rfl), by repeat (first | (with_reducible first | exact HB.out | apply below_alloc | apply pw_below_drewN | apply below_drew1 | refine below_set ?_ GE64101.out) | exact HB.out)⟩

/-! ### conf_Window: function 33 -/
def conf_Window.f (a0_0 : Int) (a0_1 : Int) (a0_2 : Int) (a0_3 : Int) (a0_4 : Int) (l0_5 : List Int) : Option (Int) := some (wrap64 (2 * a0_1))
set_option maxHeartbeats 8000000 in
set_option maxRecDepth 100000 in
theorem conf_Window.calls (a0_0 : Int) (a0_1 : Int) (a0_2 : Int) (a0_3 : Int) (a0_4 : Int) (A0_5 : Option Addr) (c0_5 : Nat) (l0_5 : List Int) (r : Int) (w : World) (hr0_5 : Kd.C (Kd.int .i64) w A0_5 l0_5.length l0_5) (hc0_5 : l0_5.length ≤ c0_5) (h : conf_Window.f a0_0 a0_1 a0_2 a0_3 a0_4 l0_5 = some r) :
    Calls Try.prog 33 #[.agg #[.int .i64 a0_0, .int .i64 a0_1, .int .i64 a0_2, .int .i64 a0_3, .int .i64 a0_4, .slice A0_5 l0_5.length c0_5]] w fun e w' => e = .returned (.int .i64 r) ∧ Below w.heap.size w w' := by
  have hu35 := Try.underlying35
  have HR0_5 := Aside0.mk hr0_5
  have HC0_5 := Aside0.mk hc0_5
  clear hr0_5 hc0_5
  have HB := Aside0.mk (Below.refl w.heap.size w)
  have H : (some (wrap64 (2 * a0_1))) = some r := h
  clear h
  obtain rfl := Option.some.inj H
  go_enter Try.func33, Try.ntmps33
  go_wp2_with (first | ((with_reducible refine gate_dst (N := 1) rfl ?_); refine box_event ?hg (N := 1) ?hd (cs := #[.int .i64 a0_0, .int .i64 a0_1, .int .i64 a0_2, .int .i64 a0_3, .int .i64 a0_4, .slice A0_5 l0_5.length c0_5]) (t := 35) ?hr ?_; (case hd => rfl); (case hg => rfl); (case hr => first | (go_simp; done) | (go_simp; rfl)); intro gb66101 hg w2 hbox hb; have n0_ := Aside0.mk (below_step (by repeat (first | (with_reducible first | exact HB.out | apply below_alloc | apply pw_below_drewN | apply below_drew1) | exact HB.out)) hb); have n1_ := Aside0.mk (hbox); have n2_ := Aside0.mk ((by rw [hg]; exact (below_size (by repeat (first | (with_reducible first | exact HB.out | apply below_alloc | apply pw_below_drewN | apply below_drew1) | exact HB.out))) : w.heap.size ≤ gb66101)); have n3_ := Aside0.mk ((by rw [hg]; exact (below_size (by repeat (first | (with_reducible first | exact HB.out | apply below_alloc | apply pw_below_drewN | apply below_drew1) | exact HB.out))) : w.heap.size ≤ gb66101)); clear HB; have HB := n0_; have BK66101 := n1_; have GW66101 := n2_; have GE66101 := n3_; clear n0_ n1_ n2_ n3_; clear hb hbox hg; have hcz3_0 : w2.cell? ⟨gb66101, 0, none⟩ = some (.int .i64 a0_0) := (blk_cell BK66101.out 0).trans rfl; have hcz3_1 : w2.cell? ⟨gb66101, 1, none⟩ = some (.int .i64 a0_1) := (blk_cell BK66101.out 1).trans rfl; have hcz3_2 : w2.cell? ⟨gb66101, 2, none⟩ = some (.int .i64 a0_2) := (blk_cell BK66101.out 2).trans rfl; have hcz3_3 : w2.cell? ⟨gb66101, 3, none⟩ = some (.int .i64 a0_3) := (blk_cell BK66101.out 3).trans rfl; have hcz3_4 : w2.cell? ⟨gb66101, 4, none⟩ = some (.int .i64 a0_4) := (blk_cell BK66101.out 4).trans rfl; have hcz3_5 : w2.cell? ⟨gb66101, 5, none⟩ = some (.slice A0_5 l0_5.length c0_5) := (blk_cell BK66101.out 5).trans rfl; have hfz3_0 := blk_frozen BK66101.out 0; have hfz3_1 := blk_frozen BK66101.out 1; have hfz3_2 := blk_frozen BK66101.out 2; have hfz3_3 := blk_frozen BK66101.out 3; have hfz3_4 := blk_frozen BK66101.out 4; have hfz3_5 := blk_frozen BK66101.out 5))
  go_ret
  exact ⟨by first | rfl | (simp [errW_none, errW_some] <;> rfl) | (simp [*, errW_none, errW_some] <;> rfl), by repeat (first | (with_reducible first | exact HB.out | apply below_alloc | apply pw_below_drewN | apply below_drew1 | refine below_set ?_ GE66101.out) | exact HB.out)⟩

/-! ### conf_Owners: function 52 -/
def conf_Owners.j0 : Nat → Int → Int → Bool → Int → Int → Int → Int → Int → List Int → Option (List Int)
  | 0, _, _, _, _, _, _, _, _, _ => none
  | k + 1, x1, x5, x25, x104102000, x104102001, x104102002, x104102003, x104102004, x104102005 => if x25 = true then (some ([] : List Int)) else (if x5 < 0 then (some (([x1] : List Int))) else (if 0 ≤ x5 then (if x5 < (x104102005.length : Int) then (if (rd x104102005 x5) = (-1) then (some ([] : List Int)) else (if x104102000 ≤ 0 then (some ([] : List Int)) else (if x104102000 = 0 then (none) else (some (([rd x104102005 x5, Int.tmod (wrap64 ((rd x104102005 x5) + 1)) x104102000] : List Int)))))) else (none)) else (none)))
def conf_Owners.f (k : Nat) (a0_0 : Int) (a0_1 : Int) (a0_2 : Int) (a0_3 : Int) (a0_4 : Int) (l0_5 : List Int) (a1 : Int) : Option (List Int) := if a1 < 0 then (conf_Owners.j0 k a1 (wrap64 (a1 - a0_0)) true a0_0 a0_1 a0_2 a0_3 a0_4 l0_5) else (conf_Owners.j0 k a1 (wrap64 (a1 - a0_0)) (decide ((wrap64 (a1 - a0_0)) ≥ (l0_5.length : Int))) a0_0 a0_1 a0_2 a0_3 a0_4 l0_5)
theorem conf_Owners.mono_l : ∀ k, (∀ y0 y1 y2 y3 y4 y5 y6 y7 y8, LeO (conf_Owners.j0 k y0 y1 y2 y3 y4 y5 y6 y7 y8) (conf_Owners.j0 (k + 1) y0 y1 y2 y3 y4 y5 y6 y7 y8))
  | 0 => fun _ _ _ _ _ _ _ _ _ r h => by simp [conf_Owners.j0] at h
  | k + 1 => by
    have ih0 := conf_Owners.mono_l k
    · intro y0 y1 y2 y3 y4 y5 y6 y7 y8
      unfold conf_Owners.j0
      repeat' first
      | (with_reducible exact ih0 _ _ _ _ _ _ _ _ _)
      | (with_reducible exact LeO.refl _)
      | (with_reducible exact LeO.none _)
      | (with_reducible refine LeO.ite ?_ ?_)
      | (with_reducible refine LeO.bind ?_ (fun _ => ?_))
      | exact ih0 _ _ _ _ _ _ _ _ _
      | exact LeO.none _
      | refine LeO.ite ?_ ?_
      | refine LeO.bind ?_ (fun _ => ?_)
theorem conf_Owners.mono : ∀ a0 a1 a2 a3 a4 a5 a6 k, LeO (conf_Owners.f k a0 a1 a2 a3 a4 a5 a6) (conf_Owners.f (k + 1) a0 a1 a2 a3 a4 a5 a6) := by
  intro a0 a1 a2 a3 a4 a5 a6 k
  have ih0 := conf_Owners.mono_l k
  unfold conf_Owners.f
  repeat' first
      | (with_reducible exact ih0 _ _ _ _ _ _ _ _ _)
      | (with_reducible exact LeO.refl _)
      | (with_reducible exact LeO.none _)
      | (with_reducible refine LeO.ite ?_ ?_)
      | (with_reducible refine LeO.bind ?_ (fun _ => ?_))
      | exact ih0 _ _ _ _ _ _ _ _ _
      | exact LeO.none _
      | refine LeO.ite ?_ ?_
      | refine LeO.bind ?_ (fun _ => ?_)
def conf_Owners.T2 : Bool × List (List Nat × List Nat) := (true, [([], []), ([0], [0]), ([], []), ([1, 2], [1, 2]), ([3], [3]), ([], []), ([5], [5]), ([], []), ([6, 7], [6, 7]), ([8], [8]), ([9], [9]), ([], []), ([11], [11]), ([10, 12], [10, 12]), ([4, 13], [4, 13]), ([14, 0, 1, 2, 3, 4, 5, 6, 7, 8, 9, 10, 11, 12, 13, 14], [14])])
def conf_Owners.B2 : List Nat := [0, 1, 0, 7, 15, 0, 32, 0, 224, 480, 992, 0, 2048, 8160, 16383, 32767]
theorem conf_Owners.tab2 : rtab .any (opsOf Try.f52 2) = conf_Owners.T2 := by kernel_rfl
theorem conf_Owners.bits2 : waitsOk conf_Owners.T2.2 conf_Owners.B2 = true := by kernel_rfl
set_option maxHeartbeats 8000000 in
set_option maxRecDepth 100000 in
theorem conf_Owners.calls (k : Nat) (a0_0 : Int) (a0_1 : Int) (a0_2 : Int) (a0_3 : Int) (a0_4 : Int) (A0_5 : Option Addr) (c0_5 : Nat) (l0_5 : List Int) (a1 : Int) (r : List Int) (w : World) (hr0_5 : Kd.C (Kd.int .i64) w A0_5 l0_5.length l0_5) (hc0_5 : l0_5.length ≤ c0_5) (h : conf_Owners.f k a0_0 a0_1 a0_2 a0_3 a0_4 l0_5 a1 = some r) :
    Calls Try.prog 52 #[.agg #[.int .i64 a0_0, .int .i64 a0_1, .int .i64 a0_2, .int .i64 a0_3, .int .i64 a0_4, .slice A0_5 l0_5.length c0_5], .int .i64 a1] w fun e w' => ∃ v0_ : Value, e = .returned (v0_) ∧ Kd.R (Kd.int .i64) 3 w' w.heap.size (fun _ => True) v0_ r ∧ Below w.heap.size w w' := by
  have hu35 := Try.underlying35
  have HR0_5 := Aside0.mk hr0_5
  have HC0_5 := Aside0.mk hc0_5
  clear hr0_5 hc0_5
  have HB := Aside0.mk (Below.refl w.heap.size w)
  have H : (if a1 < 0 then (conf_Owners.j0 k a1 (wrap64 (a1 - a0_0)) true a0_0 a0_1 a0_2 a0_3 a0_4 l0_5) else (conf_Owners.j0 k a1 (wrap64 (a1 - a0_0)) (decide ((wrap64 (a1 - a0_0)) ≥ (l0_5.length : Int))) a0_0 a0_1 a0_2 a0_3 a0_4 l0_5)) = some r := h
  clear h
  have HC3 := Aside0.mk H
  clear H
  go_enter Try.func52, Try.ntmps52
  go_upto_region 3 with (first | ((with_reducible refine gate_dst (N := 2) rfl ?_); (try (refine gate_guard (by rfl) ?_; dsimp only)); refine box_event ?hg (N := 2) ?hd (cs := #[.int .i64 a0_0, .int .i64 a0_1, .int .i64 a0_2, .int .i64 a0_3, .int .i64 a0_4, .slice A0_5 l0_5.length c0_5]) (t := 35) ?hr ?_; (case hd => rfl); (case hg => rfl); (case hr => first | (go_simp; done) | (go_simp; rfl)); intro gb104101 hg w4 hbox hb; have n0_ := Aside0.mk (below_step (by repeat (first | (with_reducible first | exact HB.out | apply below_alloc | apply pw_below_drewN | apply below_drew1) | exact HB.out)) hb); have n1_ := Aside0.mk (hbox); have n2_ := Aside0.mk ((by rw [hg]; exact (below_size (by repeat (first | (with_reducible first | exact HB.out | apply below_alloc | apply pw_below_drewN | apply below_drew1) | exact HB.out))) : w.heap.size ≤ gb104101)); have n3_ := Aside0.mk ((by rw [hg]; exact (below_size (by repeat (first | (with_reducible first | exact HB.out | apply below_alloc | apply pw_below_drewN | apply below_drew1) | exact HB.out))) : w.heap.size ≤ gb104101)); clear HB; have HB := n0_; have BK104101 := n1_; have GW104101 := n2_; have GE104101 := n3_; clear n0_ n1_ n2_ n3_; clear hb hbox hg; have hcz5_0 : w4.cell? ⟨gb104101, 0, none⟩ = some (.int .i64 a0_0) := (blk_cell BK104101.out 0).trans rfl; have hcz5_1 : w4.cell? ⟨gb104101, 1, none⟩ = some (.int .i64 a0_1) := (blk_cell BK104101.out 1).trans rfl; have hcz5_2 : w4.cell? ⟨gb104101, 2, none⟩ = some (.int .i64 a0_2) := (blk_cell BK104101.out 2).trans rfl; have hcz5_3 : w4.cell? ⟨gb104101, 3, none⟩ = some (.int .i64 a0_3) := (blk_cell BK104101.out 3).trans rfl; have hcz5_4 : w4.cell? ⟨gb104101, 4, none⟩ = some (.int .i64 a0_4) := (blk_cell BK104101.out 4).trans rfl; have hcz5_5 : w4.cell? ⟨gb104101, 5, none⟩ = some (.slice A0_5 l0_5.length c0_5) := (blk_cell BK104101.out 5).trans rfl; have hfz5_0 := blk_frozen BK104101.out 0; have hfz5_1 := blk_frozen BK104101.out 1; have hfz5_2 := blk_frozen BK104101.out 2; have hfz5_3 := blk_frozen BK104101.out 3; have hfz5_4 := blk_frozen BK104101.out 4; have hfz5_5 := blk_frozen BK104101.out 5))
  (try simp only [Act.put, List.setIfInBounds_toArray, List.set_cons_zero, List.set_cons_succ])
  go_cut [25] (fun v25 wc => ∃ (kq : Nat) (x25_2 : Bool), v25 = .bool x25_2 ∧ Aside0 (conf_Owners.j0 kq a1 (wrap64 (a1 - a0_0)) x25_2 a0_0 a0_1 a0_2 a0_3 a0_4 l0_5 = some r) ∧ Aside0 (kq ≤ k) ∧ Aside0 (wc.heap[gb104101]? = some (.cells #[.int .i64 a0_0, .int .i64 a0_1, .int .i64 a0_2, .int .i64 a0_3, .int .i64 a0_4, (.slice A0_5 l0_5.length c0_5)] 35 (0, 0))) ∧ Aside0 (Below w.heap.size w wc))
  case first =>
    have H := HC3.out
    clear HC3
    by_cases c6 : a1 < 0
    · rw [if_pos c6] at H
      have c6b0 : decide (a1 < 0) = true := decide_eq_true c6
      clear c6
      (first | rw [c6b0] | (simp only [i64_w, i32_w]; rw [c6b0]) | skip)
      have H' := Aside0.mk H
      clear H
      go_wp2
      go_meet
      case rel => exact ⟨_, (true), (by first | rfl | (simp; done) | (simp [*]; done)), H', ⟨by first | omega | exact Nat.le_refl _⟩, ⟨by (with_reducible repeat (first | refine blk_drewN ?_ _ | refine blk_drew ?_ | refine blk_alloc ?_ _)); exact BK104101.out⟩, ⟨by repeat (first | (with_reducible first | exact HB.out | apply below_alloc | apply pw_below_drewN | apply below_drew1 | refine below_set ?_ GE104101.out) | exact HB.out)⟩⟩
    · rw [if_neg c6] at H
      have c6b0 : decide (a1 < 0) = false := decide_eq_false c6
      clear c6
      (first | rw [c6b0] | (simp only [i64_w, i32_w]; rw [c6b0]) | skip)
      have H' := Aside0.mk H
      clear H
      have hcz7_0 : w4.cell? ⟨gb104101, 0, none⟩ = some (.int .i64 a0_0) := (blk_cell BK104101.out 0).trans rfl
      have hcz7_1 : w4.cell? ⟨gb104101, 1, none⟩ = some (.int .i64 a0_1) := (blk_cell BK104101.out 1).trans rfl
      have hcz7_2 : w4.cell? ⟨gb104101, 2, none⟩ = some (.int .i64 a0_2) := (blk_cell BK104101.out 2).trans rfl
      have hcz7_3 : w4.cell? ⟨gb104101, 3, none⟩ = some (.int .i64 a0_3) := (blk_cell BK104101.out 3).trans rfl
      have hcz7_4 : w4.cell? ⟨gb104101, 4, none⟩ = some (.int .i64 a0_4) := (blk_cell BK104101.out 4).trans rfl
      have hcz7_5 : w4.cell? ⟨gb104101, 5, none⟩ = some (.slice A0_5 l0_5.length c0_5) := (blk_cell BK104101.out 5).trans rfl
      have hfz7_0 := blk_frozen BK104101.out 0
      have hfz7_1 := blk_frozen BK104101.out 1
      have hfz7_2 := blk_frozen BK104101.out 2
      have hfz7_3 := blk_frozen BK104101.out 3
      have hfz7_4 := blk_frozen BK104101.out 4
      have hfz7_5 := blk_frozen BK104101.out 5
      go_wp2
      go_meet
      case rel => exact ⟨_, (decide ((wrap64 (a1 - a0_0)) ≥ (l0_5.length : Int))), (by first | rfl | (simp; done) | (simp [*]; done)), H', ⟨by first | omega | exact Nat.le_refl _⟩, ⟨by (with_reducible repeat (first | refine blk_drewN ?_ _ | refine blk_drew ?_ | refine blk_alloc ?_ _)); exact BK104101.out⟩, ⟨by repeat (first | (with_reducible first | exact HB.out | apply below_alloc | apply pw_below_drewN | apply below_drew1 | refine below_set ?_ GE104101.out) | exact HB.out)⟩⟩
  case rest =>
    clear HC3
    try clear p2
    try clear c5
    try clear c6
    try clear c6b0
    try clear p6
    try clear hcz5_0
    try clear hcz5_1
    try clear hcz5_2
    try clear hcz5_3
    try clear hcz5_4
    try clear hcz5_5
    try clear hcz7_0
    try clear hcz7_1
    try clear hcz7_2
    try clear hcz7_3
    try clear hcz7_4
    try clear hcz7_5
    try clear hfz5_0
    try clear hfz5_1
    try clear hfz5_2
    try clear hfz5_3
    try clear hfz5_4
    try clear hfz5_5
    try clear hfz7_0
    try clear hfz7_1
    try clear hfz7_2
    try clear hfz7_3
    try clear hfz7_4
    try clear hfz7_5
    obtain ⟨kq, x25_2, rfl, HA, HJ2, BK104101, HB⟩ := hcut
    cases kq with
    | zero => exact absurd HA.out (by simp [conf_Owners.j0])
    | succ kj2 =>
      have H := HA.out
      clear HA
      simp only [conf_Owners.j0] at H
      by_cases c8 : x25_2 = true
      · subst c8
        have H1 : (some ([] : List Int)) = some r := by rw [if_pos rfl] at H; exact H
        clear H
        have H := H1
        clear H1
        obtain rfl := Option.some.inj H
        go_wp2
        go_ret
        exact ⟨_, by first | rfl | (simp [errW_none, errW_some] <;> rfl) | (simp [*, errW_none, errW_some] <;> rfl), by first | exact Kd.R_nil _ _ _ _ _ | exact Kd.N_nil _ _ _ _ _ | exact Kd.V_nil _ _ _ _ _ | exact Kd.Q_nil _ _ _ _ _ | exact Kd.S_nil _ _ _ _ _, by repeat (first | (with_reducible first | exact HB.out | apply below_alloc | apply pw_below_drewN | apply below_drew1 | refine below_set ?_ GE104101.out) | exact HB.out)⟩
      · replace c8 := Bool.eq_false_iff.mpr c8
        subst c8
        have H1 : (if (wrap64 (a1 - a0_0)) < 0 then (some (([a1] : List Int))) else (if 0 ≤ (wrap64 (a1 - a0_0)) then (if (wrap64 (a1 - a0_0)) < (l0_5.length : Int) then (if (rd l0_5 (wrap64 (a1 - a0_0))) = (-1) then (some ([] : List Int)) else (if a0_0 ≤ 0 then (some ([] : List Int)) else (if a0_0 = 0 then (none) else (some (([rd l0_5 (wrap64 (a1 - a0_0)), Int.tmod (wrap64 ((rd l0_5 (wrap64 (a1 - a0_0))) + 1)) a0_0] : List Int)))))) else (none)) else (none))) = some r := by rw [if_neg (show ¬ (false = true) by decide)] at H; exact H
        clear H
        have H := H1
        clear H1
        by_cases c9 : (wrap64 (a1 - a0_0)) < 0
        · rw [if_pos c9] at H
          have c9b0 : decide ((wrap64 (a1 - a0_0)) < 0) = true := decide_eq_true c9
          clear c9
          obtain ⟨y104102, hy104102⟩ : ∃ y_ : List Int, y_ = (([a1] : List Int)) := ⟨_, rfl⟩
          replace H : (some y104102) = some r := by first | (rw [hy104102]; with_reducible exact H) | (have H2_ := (Option.bind_some _ _).symm.trans H; rw [hy104102]; with_reducible exact H2_) | (have H2_ := (Option.bind_some _ _).symm.trans H; with_reducible exact H2_) | with_reducible exact H | (rw [hy104102]; exact H) | exact H
          have Ny104102 := Aside0.mk hy104102
          clear hy104102
          obtain rfl := Option.some.inj H
          go_wp2_with (first | ((with_reducible refine gate_dst (N := 39) rfl ?_); (try (refine gate_guard (by rfl) ?_; dsimp only)); refine Kd.R_lit (Kd.int .i64) _ 3 ?hg (N := 39) ?hd (xs := ([a1] : List Int)) (inner := [.int .i64 a1]) (ok := fun _ => True) (okp := fun _ => True) ?hr ?hp (fun _ hk => hk) trivial (Below.refl _ _) (Nat.le_refl _) (by simp) ?_; (case hd => rfl); (case hg => rfl); (case hr => first | (go_simp; done) | (go_simp; rfl)); (case hp => exact (Reps.one (show Kd.M (Kd.int .i64) _ _ _ a1 [.int .i64 a1] from rfl) (Reps.none _ _))); intro v104103 w10 ho11 hb hg_ hnew_; clear hg_ hnew_; (first | rw [← Ny104102.out] at ho11 | (simp only [Int.reduceToNat] at ho11; rw [← Ny104102.out] at ho11)); have n0_ := Aside0.mk (Kd.R_lower ho11 (below_size (by repeat (first | (with_reducible first | exact HB.out | apply below_alloc | apply pw_below_drewN | apply below_drew1 | refine below_set ?_ GE104101.out) | exact HB.out)))); have n1_ := Aside0.mk (blk_below (g := gb104101) (o := .cells #[.int .i64 a0_0, .int .i64 a0_1, .int .i64 a0_2, .int .i64 a0_3, .int .i64 a0_4, .slice A0_5 l0_5.length c0_5] 35 (0, 0)) (by (with_reducible repeat (first | refine blk_drewN ?_ _ | refine blk_drew ?_ | refine blk_alloc ?_ _)); exact BK104101.out) hb); have n2_ := Aside0.mk (below_step (by repeat (first | (with_reducible first | exact HB.out | apply below_alloc | apply pw_below_drewN | apply below_drew1 | refine below_set ?_ GE104101.out) | exact HB.out)) hb); clear BK104101; clear HB; have HO104104 := n0_; have BK104101 := n1_; have HB := n2_; clear n0_ n1_ n2_; clear hb ho11))
          go_ret
          exact ⟨_, by first | rfl | (simp [errW_none, errW_some] <;> rfl) | (simp [*, errW_none, errW_some] <;> rfl), by (with_reducible repeat (first | apply Kd.R_alloc | apply Kd.R_drewN | apply Kd.R_drew)); exact HO104104.out, by repeat (first | (with_reducible first | exact HB.out | apply below_alloc | apply pw_below_drewN | apply below_drew1 | refine below_set ?_ GE104101.out) | exact HB.out)⟩
        · rw [if_neg c9] at H
          have c9b0 : decide ((wrap64 (a1 - a0_0)) < 0) = false := decide_eq_false c9
          clear c9
          obtain ⟨ji12, hji12⟩ : ∃ j_ : Int, (wrap64 (a1 - a0_0)) = j_ := ⟨_, rfl⟩
          replace H : (if 0 ≤ (ji12) then (if (ji12) < (l0_5.length : Int) then (if (rd l0_5 (ji12)) = (-1) then (some ([] : List Int)) else (if a0_0 ≤ 0 then (some ([] : List Int)) else (if a0_0 = 0 then (none) else (some (([rd l0_5 (ji12), Int.tmod (wrap64 ((rd l0_5 (ji12)) + 1)) a0_0] : List Int)))))) else (none)) else (none)) = some r := by first | (rw [hji12] at H; exact H) | (simp only [hji12] at H ⊢; exact H)
          (try rw [hji12] at c9b0)
          have hji12w : (IntKind.i64.wrap (a1 - a0_0)) = ji12 := (i64_w _).trans hji12
          by_cases c13 : 0 ≤ (ji12)
          · rw [if_pos c13] at H
            have c13b0 : decide (0 ≤ (ji12)) = true := decide_eq_true c13
            clear c13
            by_cases c14 : (ji12) < (l0_5.length : Int)
            · rw [if_pos c14] at H
              have c14b0 : decide ((ji12) < (l0_5.length : Int)) = true := decide_eq_true c14
              clear c14
              by_cases c15 : (rd l0_5 (ji12)) = (-1)
              · rw [if_pos c15] at H
                have c15b0 : ((rd l0_5 (ji12)) == (-1)) = true := beq_iff_eq.mpr c15
                have c15b1 : ((rd l0_5 (ji12)) != (-1)) = false := bne_eq_false_iff_eq.mpr c15
                clear c15
                obtain rfl := Option.some.inj H
                have hcz16_0 : wc.cell? ⟨gb104101, 0, none⟩ = some (.int .i64 a0_0) := (blk_cell BK104101.out 0).trans rfl
                have hcz16_1 : wc.cell? ⟨gb104101, 1, none⟩ = some (.int .i64 a0_1) := (blk_cell BK104101.out 1).trans rfl
                have hcz16_2 : wc.cell? ⟨gb104101, 2, none⟩ = some (.int .i64 a0_2) := (blk_cell BK104101.out 2).trans rfl
                have hcz16_3 : wc.cell? ⟨gb104101, 3, none⟩ = some (.int .i64 a0_3) := (blk_cell BK104101.out 3).trans rfl
                have hcz16_4 : wc.cell? ⟨gb104101, 4, none⟩ = some (.int .i64 a0_4) := (blk_cell BK104101.out 4).trans rfl
                have hcz16_5 : wc.cell? ⟨gb104101, 5, none⟩ = some (.slice A0_5 l0_5.length c0_5) := (blk_cell BK104101.out 5).trans rfl
                have hfz16_0 := blk_frozen BK104101.out 0
                have hfz16_1 := blk_frozen BK104101.out 1
                have hfz16_2 := blk_frozen BK104101.out 2
                have hfz16_3 := blk_frozen BK104101.out 3
                have hfz16_4 := blk_frozen BK104101.out 4
                have hfz16_5 := blk_frozen BK104101.out 5
                have p104105 : 0 ≤ ((ji12) : Int) := of_decide_eq_true (by first | (with_reducible assumption) | assumption)
                have q104105 : (ji12) < (l0_5.length : Int) := of_decide_eq_true (by first | (with_reducible assumption) | assumption)
                obtain ⟨ad104105, e104105, hx104105_0⟩ := Kd.at_int HR0_5.out (ji12) p104105 q104105
                cases e104105
                replace hx104105_0 := (HB.out.cell (World.block_lt_of_cell? w _ hx104105_0)).trans hx104105_0
                replace p104105 := eq_true p104105
                replace q104105 := eq_true q104105
                go_wp2
                go_ret
                exact ⟨_, by first | rfl | (simp [errW_none, errW_some] <;> rfl) | (simp only [← hji12]; first | rfl | (simp [errW_none, errW_some] <;> rfl)) | (simp [*, errW_none, errW_some] <;> rfl), by first | exact Kd.R_nil _ _ _ _ _ | exact Kd.N_nil _ _ _ _ _ | exact Kd.V_nil _ _ _ _ _ | exact Kd.Q_nil _ _ _ _ _ | exact Kd.S_nil _ _ _ _ _, by repeat (first | (with_reducible first | exact HB.out | apply below_alloc | apply pw_below_drewN | apply below_drew1 | refine below_set ?_ GE104101.out) | exact HB.out)⟩
              · rw [if_neg c15] at H
                have c15b0 : ((rd l0_5 (ji12)) == (-1)) = false := beq_eq_false_iff_ne.mpr c15
                have c15b1 : ((rd l0_5 (ji12)) != (-1)) = true := bne_iff_ne.mpr c15
                by_cases c17 : a0_0 ≤ 0
                · rw [if_pos c17] at H
                  have c17b0 : decide (a0_0 ≤ 0) = true := decide_eq_true c17
                  clear c17
                  obtain rfl := Option.some.inj H
                  have hcz18_0 : wc.cell? ⟨gb104101, 0, none⟩ = some (.int .i64 a0_0) := (blk_cell BK104101.out 0).trans rfl
                  have hcz18_1 : wc.cell? ⟨gb104101, 1, none⟩ = some (.int .i64 a0_1) := (blk_cell BK104101.out 1).trans rfl
                  have hcz18_2 : wc.cell? ⟨gb104101, 2, none⟩ = some (.int .i64 a0_2) := (blk_cell BK104101.out 2).trans rfl
                  have hcz18_3 : wc.cell? ⟨gb104101, 3, none⟩ = some (.int .i64 a0_3) := (blk_cell BK104101.out 3).trans rfl
                  have hcz18_4 : wc.cell? ⟨gb104101, 4, none⟩ = some (.int .i64 a0_4) := (blk_cell BK104101.out 4).trans rfl
                  have hcz18_5 : wc.cell? ⟨gb104101, 5, none⟩ = some (.slice A0_5 l0_5.length c0_5) := (blk_cell BK104101.out 5).trans rfl
                  have hfz18_0 := blk_frozen BK104101.out 0
                  have hfz18_1 := blk_frozen BK104101.out 1
                  have hfz18_2 := blk_frozen BK104101.out 2
                  have hfz18_3 := blk_frozen BK104101.out 3
                  have hfz18_4 := blk_frozen BK104101.out 4
                  have hfz18_5 := blk_frozen BK104101.out 5
                  have p104105 : 0 ≤ ((ji12) : Int) := of_decide_eq_true (by first | (with_reducible assumption) | assumption)
                  have q104105 : (ji12) < (l0_5.length : Int) := of_decide_eq_true (by first | (with_reducible assumption) | assumption)
                  obtain ⟨ad104105, e104105, hx104105_0⟩ := Kd.at_int HR0_5.out (ji12) p104105 q104105
                  cases e104105
                  replace hx104105_0 := (HB.out.cell (World.block_lt_of_cell? w _ hx104105_0)).trans hx104105_0
                  replace p104105 := eq_true p104105
                  replace q104105 := eq_true q104105
                  go_wp2
                  go_ret
                  exact ⟨_, by first | rfl | (simp [errW_none, errW_some] <;> rfl) | (simp only [← hji12]; first | rfl | (simp [errW_none, errW_some] <;> rfl)) | (simp [*, errW_none, errW_some] <;> rfl), by first | exact Kd.R_nil _ _ _ _ _ | exact Kd.N_nil _ _ _ _ _ | exact Kd.V_nil _ _ _ _ _ | exact Kd.Q_nil _ _ _ _ _ | exact Kd.S_nil _ _ _ _ _, by repeat (first | (with_reducible first | exact HB.out | apply below_alloc | apply pw_below_drewN | apply below_drew1 | refine below_set ?_ GE104101.out) | exact HB.out)⟩
                · rw [if_neg c17] at H
                  have c17b0 : decide (a0_0 ≤ 0) = false := decide_eq_false c17
                  clear c17
                  by_cases c19 : a0_0 = 0
                  · rw [if_pos c19] at H
                    exact absurd H (by simp)
                  · rw [if_neg c19] at H
                    have c19b0 : (a0_0 == 0) = false := beq_eq_false_iff_ne.mpr c19
                    have c19b1 : (a0_0 != 0) = true := bne_iff_ne.mpr c19
                    obtain ⟨y104108, hy104108⟩ : ∃ y_ : List Int, y_ = (([rd l0_5 (ji12), Int.tmod (wrap64 ((rd l0_5 (ji12)) + 1)) a0_0] : List Int)) := ⟨_, rfl⟩
                    replace H : (some y104108) = some r := by first | (rw [hy104108]; with_reducible exact H) | (have H2_ := (Option.bind_some _ _).symm.trans H; rw [hy104108]; with_reducible exact H2_) | (have H2_ := (Option.bind_some _ _).symm.trans H; with_reducible exact H2_) | with_reducible exact H | (rw [hy104108]; exact H) | exact H
                    have Ny104108 := Aside0.mk hy104108
                    clear hy104108
                    obtain rfl := Option.some.inj H
                    have hcz20_0 : wc.cell? ⟨gb104101, 0, none⟩ = some (.int .i64 a0_0) := (blk_cell BK104101.out 0).trans rfl
                    have hcz20_1 : wc.cell? ⟨gb104101, 1, none⟩ = some (.int .i64 a0_1) := (blk_cell BK104101.out 1).trans rfl
                    have hcz20_2 : wc.cell? ⟨gb104101, 2, none⟩ = some (.int .i64 a0_2) := (blk_cell BK104101.out 2).trans rfl
                    have hcz20_3 : wc.cell? ⟨gb104101, 3, none⟩ = some (.int .i64 a0_3) := (blk_cell BK104101.out 3).trans rfl
                    have hcz20_4 : wc.cell? ⟨gb104101, 4, none⟩ = some (.int .i64 a0_4) := (blk_cell BK104101.out 4).trans rfl
                    have hcz20_5 : wc.cell? ⟨gb104101, 5, none⟩ = some (.slice A0_5 l0_5.length c0_5) := (blk_cell BK104101.out 5).trans rfl
                    have hfz20_0 := blk_frozen BK104101.out 0
                    have hfz20_1 := blk_frozen BK104101.out 1
                    have hfz20_2 := blk_frozen BK104101.out 2
                    have hfz20_3 := blk_frozen BK104101.out 3
                    have hfz20_4 := blk_frozen BK104101.out 4
                    have hfz20_5 := blk_frozen BK104101.out 5
                    have p104105 : 0 ≤ ((ji12) : Int) := of_decide_eq_true (by first | (with_reducible assumption) | assumption)
                    have q104105 : (ji12) < (l0_5.length : Int) := of_decide_eq_true (by first | (with_reducible assumption) | assumption)
                    obtain ⟨ad104105, e104105, hx104105_0⟩ := Kd.at_int HR0_5.out (ji12) p104105 q104105
                    cases e104105
                    replace hx104105_0 := (HB.out.cell (World.block_lt_of_cell? w _ hx104105_0)).trans hx104105_0
                    replace p104105 := eq_true p104105
                    replace q104105 := eq_true q104105
                    try go_wp2
                    have n0_ := Aside0.mk (blk_drew BK104101.out)
                    have n1_ := Aside0.mk (below_drew1 HB.out)
                    clear BK104101
                    clear HB
                    have BK104101 := n0_
                    have HB := n1_
                    clear n0_ n1_
                    have p104106 : 0 ≤ ((ji12) : Int) := of_decide_eq_true (by first | (with_reducible assumption) | assumption)
                    have q104106 : (ji12) < (l0_5.length : Int) := of_decide_eq_true (by first | (with_reducible assumption) | assumption)
                    obtain ⟨ad104106, e104106, hx104106_0⟩ := Kd.at_int HR0_5.out (ji12) p104106 q104106
                    have hw104106_0 := hx104106_0
                    obtain rfl : ad104105 = ad104106 := (by injection e104106)
                    replace hx104106_0 := (HB.out.cell (World.block_lt_of_cell? w _ hx104106_0)).trans hx104106_0
                    replace p104106 := eq_true p104106
                    replace q104106 := eq_true q104106
                    have p104107 : 0 ≤ ((ji12) : Int) := of_decide_eq_true (by first | (with_reducible assumption) | assumption)
                    have q104107 : (ji12) < (l0_5.length : Int) := of_decide_eq_true (by first | (with_reducible assumption) | assumption)
                    obtain ⟨ad104107, e104107, hx104107_0⟩ := Kd.at_int HR0_5.out (ji12) p104107 q104107
                    have hw104107_0 := hx104107_0
                    obtain rfl : ad104105 = ad104107 := (by injection e104107)
                    replace hx104107_0 := (HB.out.cell (World.block_lt_of_cell? w _ hx104107_0)).trans hx104107_0
                    replace p104107 := eq_true p104107
                    replace q104107 := eq_true q104107
                    refine start_ (n := 16) (S := fun w' => w'.cell? ⟨gb104101, 0, none⟩ = some (.int .i64 a0_0) ∧ w'.cell? ⟨gb104101, 1, none⟩ = some (.int .i64 a0_1) ∧ w'.cell? ⟨gb104101, 2, none⟩ = some (.int .i64 a0_2) ∧ w'.cell? ⟨gb104101, 3, none⟩ = some (.int .i64 a0_3) ∧ w'.cell? ⟨gb104101, 4, none⟩ = some (.int .i64 a0_4) ∧ w'.cell? ⟨gb104101, 5, none⟩ = some (.slice (some ad104105) l0_5.length c0_5) ∧ w'.cell? (ad104105.add ((ji12)).toNat) = some (.int .i64 (rd l0_5 (ji12))) ∧ w'.cell? (ad104105.add ((ji12)).toNat) = some (.int .i64 (rd l0_5 (ji12)))) (ds := []) #[false, false, false, false, false, false, false, false, false, false, false, false, false, false, false, false] (by kernel_rfl) rfl rfl ⟨(blk_cell BK104101.out 0).trans rfl, (blk_cell BK104101.out 1).trans rfl, (blk_cell BK104101.out 2).trans rfl, (blk_cell BK104101.out 3).trans rfl, (blk_cell BK104101.out 4).trans rfl, (blk_cell BK104101.out 5).trans rfl, ((HB.out.cell (World.block_lt_of_cell? w _ hw104106_0)).trans hw104106_0), ((HB.out.cell (World.block_lt_of_cell? w _ hw104107_0)).trans hw104107_0)⟩ (fun hHeld => ?_); refine with_tabW conf_Owners.tab2 conf_Owners.bits2 (fun HT_ HW_ => ?_)
                    generalize wc.drew = w21 at BK104101 HB hx104106_0 hx104107_0 hHeld ⊢
                    refine pure_ (i := 0) (N := some 10) (v := ?_) (a' := ?_) #[true, false, false, false, false, false, false, false, false, false, false, false, false, false, false, false] rfl rfl (any_of HT_.out (by kernel_rfl)) (fun _ _ _ h => h) (Or.inl ⟨by rfl, ?_⟩) ?_ ?_
                    rotate_left
                    · intro w'
                      go_simp
                      with_reducible rfl
                    rotate_left
                    · simp only [Act.put, List.setIfInBounds_toArray, List.set_cons_zero, List.set_cons_succ, i64_w, i32_w]
                      rfl
                    refine pure_ (i := 2) (N := some 12) (v := ?_) (a' := ?_) #[true, false, true, false, false, false, false, false, false, false, false, false, false, false, false, false] rfl rfl (any_of HT_.out (by kernel_rfl)) (fun _ _ _ h => h) (Or.inl ⟨by rfl, ?_⟩) ?_ ?_
                    rotate_left
                    · intro w'
                      go_simp
                      with_reducible rfl
                    rotate_left
                    · simp only [Act.put, List.setIfInBounds_toArray, List.set_cons_zero, List.set_cons_succ, i64_w, i32_w]
                      rfl
                    refine pure_ (i := 5) (N := some 15) (v := ?_) (a' := ?_) #[true, false, true, false, false, true, false, false, false, false, false, false, false, false, false, false] rfl rfl (any_of HT_.out (by kernel_rfl)) (fun _ _ _ h => h) (Or.inl ⟨by rfl, ?_⟩) ?_ ?_
                    rotate_left
                    · intro w'
                      go_simp
                      with_reducible rfl
                    rotate_left
                    · simp only [Act.put, List.setIfInBounds_toArray, List.set_cons_zero, List.set_cons_succ, i64_w, i32_w]
                      rfl
                    refine pure_ (i := 7) (N := some 17) (v := ?_) (a' := ?_) #[true, false, true, false, false, true, false, true, false, false, false, false, false, false, false, false] rfl rfl (any_of HT_.out (by kernel_rfl)) (fun _ _ _ h => h) (Or.inl ⟨by rfl, ?_⟩) ?_ ?_
                    rotate_left
                    · intro w'
                      go_simp
                      with_reducible rfl
                    rotate_left
                    · simp only [Act.put, List.setIfInBounds_toArray, List.set_cons_zero, List.set_cons_succ, i64_w, i32_w]
                      rfl
                    refine pure_ (i := 11) (N := some 21) (v := ?_) (a' := ?_) #[true, false, true, false, false, true, false, true, false, false, false, true, false, false, false, false] rfl rfl (any_of HT_.out (by kernel_rfl)) (fun _ _ _ h => h) (Or.inl ⟨by rfl, ?_⟩) ?_ ?_
                    rotate_left
                    · intro w'
                      go_simp
                      with_reducible rfl
                    rotate_left
                    · simp only [Act.put, List.setIfInBounds_toArray, List.set_cons_zero, List.set_cons_succ, i64_w, i32_w]
                      rfl
                    refine take_ (i := 1) (N := some 11) (v := ?_) (a' := ?_) #[true, true, true, false, false, true, false, true, false, false, false, true, false, false, false, false] rfl rfl (take_ofW HT_.out HW_.out (by kernel_rfl)) (fun _ _ _ h => h) (Or.inl ⟨by rfl, ?_⟩) hHeld ?_ ?_
                    rotate_left
                    · rintro w' ⟨s0, s1, s2, s3, s4, s5, s6, s7⟩
                      go_simp
                      with_reducible rfl
                    rotate_left
                    · simp only [Act.put, List.setIfInBounds_toArray, List.set_cons_zero, List.set_cons_succ, i64_w, i32_w]
                      rfl
                    refine pure_ (i := 3) (N := some 13) (v := ?_) (a' := ?_) #[true, true, true, true, false, true, false, true, false, false, false, true, false, false, false, false] rfl rfl (any_of HT_.out (by kernel_rfl)) (fun _ _ _ h => h) (Or.inl ⟨by rfl, ?_⟩) ?_ ?_
                    rotate_left
                    · intro w'
                      go_simp
                      with_reducible rfl
                    rotate_left
                    · simp only [Act.put, List.setIfInBounds_toArray, List.set_cons_zero, List.set_cons_succ, i64_w, i32_w]
                      rfl
                    refine take_ (i := 4) (N := some 14) (v := ?_) (a' := ?_) #[true, true, true, true, true, true, false, true, false, false, false, true, false, false, false, false] rfl rfl (take_ofW HT_.out HW_.out (by kernel_rfl)) (fun _ _ _ h => h) (Or.inl ⟨by rfl, ?_⟩) hHeld ?_ ?_
                    rotate_left
                    · rintro w' ⟨s0, s1, s2, s3, s4, s5, s6, s7⟩
                      go_simp
                      with_reducible rfl
                    rotate_left
                    · simp only [Act.put, List.setIfInBounds_toArray, List.set_cons_zero, List.set_cons_succ, i64_w, i32_w]
                      rfl
                    refine take_ (i := 6) (N := some 16) (v := ?_) (a' := ?_) #[true, true, true, true, true, true, true, true, false, false, false, true, false, false, false, false] rfl rfl (take_ofW HT_.out HW_.out (by kernel_rfl)) (fun _ _ _ h => h) (Or.inl ⟨by rfl, ?_⟩) hHeld ?_ ?_
                    rotate_left
                    · rintro w' ⟨s0, s1, s2, s3, s4, s5, s6, s7⟩
                      go_simp
                      with_reducible rfl
                    rotate_left
                    · simp only [Act.put, List.setIfInBounds_toArray, List.set_cons_zero, List.set_cons_succ, i64_w, i32_w]
                      rfl
                    refine pure_ (i := 8) (N := some 18) (v := ?_) (a' := ?_) #[true, true, true, true, true, true, true, true, true, false, false, true, false, false, false, false] rfl rfl (any_of HT_.out (by kernel_rfl)) (fun _ _ _ h => h) (Or.inl ⟨by rfl, ?_⟩) ?_ ?_
                    rotate_left
                    · intro w'
                      go_simp
                      with_reducible rfl
                    rotate_left
                    · simp only [Act.put, List.setIfInBounds_toArray, List.set_cons_zero, List.set_cons_succ, i64_w, i32_w]
                      rfl
                    refine take_ (i := 9) (N := some 19) (v := ?_) (a' := ?_) #[true, true, true, true, true, true, true, true, true, true, false, true, false, false, false, false] rfl rfl (take_ofW HT_.out HW_.out (by kernel_rfl)) (fun _ _ _ h => h) (Or.inl ⟨by rfl, ?_⟩) hHeld ?_ ?_
                    rotate_left
                    · rintro w' ⟨s0, s1, s2, s3, s4, s5, s6, s7⟩
                      go_simp
                      with_reducible rfl
                    rotate_left
                    · simp only [Act.put, List.setIfInBounds_toArray, List.set_cons_zero, List.set_cons_succ, i64_w, i32_w]
                      rfl
                    refine pure_ (i := 10) (N := some 20) (v := ?_) (a' := ?_) #[true, true, true, true, true, true, true, true, true, true, true, true, false, false, false, false] rfl rfl (any_of HT_.out (by kernel_rfl)) (fun _ _ _ h => h) (Or.inl ⟨by rfl, ?_⟩) ?_ ?_
                    rotate_left
                    · intro w'
                      go_simp
                      with_reducible rfl
                    rotate_left
                    · simp only [Act.put, List.setIfInBounds_toArray, List.set_cons_zero, List.set_cons_succ, i64_w, i32_w]
                      rfl
                    refine take_ (i := 12) (N := some 22) (v := ?_) (a' := ?_) #[true, true, true, true, true, true, true, true, true, true, true, true, true, false, false, false] rfl rfl (take_ofW HT_.out HW_.out (by kernel_rfl)) (fun _ _ _ h => h) (Or.inl ⟨by rfl, ?_⟩) hHeld ?_ ?_
                    rotate_left
                    · rintro w' ⟨s0, s1, s2, s3, s4, s5, s6, s7⟩
                      go_simp
                      with_reducible rfl
                    rotate_left
                    · simp only [Act.put, List.setIfInBounds_toArray, List.set_cons_zero, List.set_cons_succ, i64_w, i32_w]
                      rfl
                    refine pure_ (i := 13) (N := some 23) (v := ?_) (a' := ?_) #[true, true, true, true, true, true, true, true, true, true, true, true, true, true, false, false] rfl rfl (any_of HT_.out (by kernel_rfl)) (fun _ _ _ h => h) (Or.inl ⟨by rfl, ?_⟩) ?_ ?_
                    rotate_left
                    · intro w'
                      go_simp
                      with_reducible rfl
                    rotate_left
                    · simp only [Act.put, List.setIfInBounds_toArray, List.set_cons_zero, List.set_cons_succ, i64_w, i32_w]
                      rfl
                    refine one_ (i := 14) (N := some 24) #[true, true, true, true, true, true, true, true, true, true, true, true, true, true, true, false] rfl rfl (one_of HT_.out (by kernel_rfl)) (by decide) (fun K hK => ?_)
                    refine Kd.R_lit_step (Kd.int .i64) _ 3 ?hg (N := 24) ?hd (xs := ([rd l0_5 (ji12), Int.tmod (wrap64 ((rd l0_5 (ji12)) + 1)) a0_0] : List Int)) (inner := [.int .i64 (rd l0_5 (ji12)), .int .i64 (Int.tmod (wrap64 ((rd l0_5 (ji12)) + 1)) a0_0)]) (ok := fun _ => True) (okp := fun _ => True) ?hr ?hp (fun _ hk => hk) trivial (Below.refl _ _) (Nat.le_refl _) (by simp) ?_; (case hd => rfl); (case hg => rfl); (case hr => first | (go_simp; done) | (go_simp; rfl)); (case hp => exact (Reps.one (show Kd.M (Kd.int .i64) _ _ _ (rd l0_5 (ji12)) [.int .i64 (rd l0_5 (ji12))] from rfl) (Reps.one (show Kd.M (Kd.int .i64) _ _ _ (Int.tmod (wrap64 ((rd l0_5 (ji12)) + 1)) a0_0) [.int .i64 (Int.tmod (wrap64 ((rd l0_5 (ji12)) + 1)) a0_0)] from rfl) (Reps.none _ _))))
                    intro v104109 w22 ho23 hb hg_ hnew_
                    clear hg_ hnew_
                    (first | rw [← Ny104108.out] at ho23 | (simp only [Int.reduceToNat] at ho23; rw [← Ny104108.out] at ho23))
                    have n0_ := Aside0.mk (Kd.R_lower ho23 (below_size (by repeat (first | (with_reducible first | exact HB.out | apply below_alloc | apply pw_below_drewN | apply below_drew1 | refine below_set ?_ GE104101.out) | exact HB.out))))
                    have n1_ := Aside0.mk (blk_below (g := gb104101) (o := .cells #[.int .i64 a0_0, .int .i64 a0_1, .int .i64 a0_2, .int .i64 a0_3, .int .i64 a0_4, .slice (some ad104105) l0_5.length c0_5] 35 (0, 0)) (by (with_reducible repeat (first | refine blk_drewN ?_ _ | refine blk_drew ?_ | refine blk_alloc ?_ _)); exact BK104101.out) hb)
                    have n2_ := Aside0.mk (below_step (by repeat (first | (with_reducible first | exact HB.out | apply below_alloc | apply pw_below_drewN | apply below_drew1 | refine below_set ?_ GE104101.out) | exact HB.out)) hb)
                    clear BK104101
                    clear HB
                    have HO104110 := n0_
                    have BK104101 := n1_
                    have HB := n2_
                    clear n0_ n1_ n2_
                    clear hb ho23
                    refine hK.out _ _ ⟨(blk_cell BK104101.out 0).trans rfl, (blk_cell BK104101.out 1).trans rfl, (blk_cell BK104101.out 2).trans rfl, (blk_cell BK104101.out 3).trans rfl, (blk_cell BK104101.out 4).trans rfl, (blk_cell BK104101.out 5).trans rfl, ((HB.out.cell (World.block_lt_of_cell? w _ hw104106_0)).trans hw104106_0), ((HB.out.cell (World.block_lt_of_cell? w _ hw104107_0)).trans hw104107_0)⟩ (fun hHeld => ?_)
                    clear hK K
                    refine norm_ (a' := ?_) ?_ ?_
                    rotate_left
                    · show Act.put _ (some 24) _ = _
                      simp only [Act.put, List.setIfInBounds_toArray, List.set_cons_zero, List.set_cons_succ, i64_w, i32_w]
                      rfl
                    refine pure_ (i := 15) (N := some 4) (v := ?_) (a' := ?_) #[true, true, true, true, true, true, true, true, true, true, true, true, true, true, true, true] rfl rfl (any_of HT_.out (by kernel_rfl)) (fun _ _ _ h => h) (Or.inl ⟨by rfl, ?_⟩) ?_ ?_
                    rotate_left
                    · intro w'
                      go_simp
                      with_reducible rfl
                    rotate_left
                    · simp only [Act.put, List.setIfInBounds_toArray, List.set_cons_zero, List.set_cons_succ, i64_w, i32_w]
                      rfl
                    refine done_ (done_of HT_.out (by kernel_rfl)) ?_
                    try go_wp2
                    go_ret
                    exact ⟨_, by first | rfl | (simp [errW_none, errW_some] <;> rfl) | (simp only [← hji12]; first | rfl | (simp [errW_none, errW_some] <;> rfl)) | (simp [*, errW_none, errW_some] <;> rfl), by (with_reducible repeat (first | apply Kd.R_alloc | apply Kd.R_drewN | apply Kd.R_drew)); exact HO104110.out, by repeat (first | (with_reducible first | exact HB.out | apply below_alloc | apply pw_below_drewN | apply below_drew1 | refine below_set ?_ GE104101.out) | exact HB.out)⟩
            · rw [if_neg c14] at H
              exact absurd H (by simp)
          · rw [if_neg c13] at H
            exact absurd H (by simp)

/-! ### conf_Voters: function 53 -/
def conf_Voters.l0 : Nat → List Int → List Int → Int → Int → Option (List Int)
  | 0, _, _, _, _ => none
  | k + 1, x5, x6, x13, x14 => if x14 < x13 then ((slices_Contains_int_int.f k x5 x14).bind fun t106105 => (if t106105 = true then (conf_Voters.l0 k x5 x6 x13 (wrap64 (x14 + 1))) else (if x6.length < 17592186044416 then (conf_Voters.l0 k x5 (x6 ++ [x14]) x13 (wrap64 (x14 + 1))) else (none)))) else (some x6)
def conf_Voters.f (k : Nat) (a0_0 : Int) (a0_1 : Int) (a0_2 : Int) (a0_3 : Int) (a0_4 : Int) (l0_5 : List Int) (a1 : Int) : Option (List Int) := (conf_Owners.f k a0_0 a0_1 a0_2 a0_3 a0_4 l0_5 a1).bind fun t106102 => (conf_Voters.l0 k t106102 ([] : List Int) (mn a0_0 12) 0)
theorem conf_Voters.mono_l : ∀ k, (∀ y0 y1 y2 y3, LeO (conf_Voters.l0 k y0 y1 y2 y3) (conf_Voters.l0 (k + 1) y0 y1 y2 y3))
  | 0 => fun _ _ _ _ r h => by simp [conf_Voters.l0] at h
  | k + 1 => by
    have ih0 := conf_Voters.mono_l k
    · intro y0 y1 y2 y3
      unfold conf_Voters.l0
      repeat' first
      | (with_reducible exact ih0 _ _ _ _)
      | (with_reducible exact conf_Owners.mono _ _ _ _ _ _ _ _)
      | (with_reducible exact slices_Contains_int_int.mono _ _ _)
      | (with_reducible exact LeO.refl _)
      | (with_reducible exact LeO.none _)
      | (with_reducible refine LeO.ite ?_ ?_)
      | (with_reducible refine LeO.bind ?_ (fun _ => ?_))
      | exact ih0 _ _ _ _
      | exact conf_Owners.mono _ _ _ _ _ _ _ _
      | exact slices_Contains_int_int.mono _ _ _
      | exact LeO.none _
      | refine LeO.ite ?_ ?_
      | refine LeO.bind ?_ (fun _ => ?_)
theorem conf_Voters.mono : ∀ a0 a1 a2 a3 a4 a5 a6 k, LeO (conf_Voters.f k a0 a1 a2 a3 a4 a5 a6) (conf_Voters.f (k + 1) a0 a1 a2 a3 a4 a5 a6) := by
  intro a0 a1 a2 a3 a4 a5 a6 k
  have ih0 := conf_Voters.mono_l k
  unfold conf_Voters.f
  repeat' first
      | (with_reducible exact ih0 _ _ _ _)
      | (with_reducible exact conf_Owners.mono _ _ _ _ _ _ _ _)
      | (with_reducible exact slices_Contains_int_int.mono _ _ _)
      | (with_reducible exact LeO.refl _)
      | (with_reducible exact LeO.none _)
      | (with_reducible refine LeO.ite ?_ ?_)
      | (with_reducible refine LeO.bind ?_ (fun _ => ?_))
      | exact ih0 _ _ _ _
      | exact conf_Owners.mono _ _ _ _ _ _ _ _
      | exact slices_Contains_int_int.mono _ _ _
      | exact LeO.none _
      | refine LeO.ite ?_ ?_
      | refine LeO.bind ?_ (fun _ => ?_)
set_option maxHeartbeats 8000000 in
set_option maxRecDepth 100000 in
theorem conf_Voters.calls (k : Nat) (a0_0 : Int) (a0_1 : Int) (a0_2 : Int) (a0_3 : Int) (a0_4 : Int) (A0_5 : Option Addr) (c0_5 : Nat) (l0_5 : List Int) (a1 : Int) (r : List Int) (w : World) (hr0_5 : Kd.C (Kd.int .i64) w A0_5 l0_5.length l0_5) (hc0_5 : l0_5.length ≤ c0_5) (h : conf_Voters.f k a0_0 a0_1 a0_2 a0_3 a0_4 l0_5 a1 = some r) :
    Calls Try.prog 53 #[.agg #[.int .i64 a0_0, .int .i64 a0_1, .int .i64 a0_2, .int .i64 a0_3, .int .i64 a0_4, .slice A0_5 l0_5.length c0_5], .int .i64 a1] w fun e w' => ∃ v0_ : Value, e = .returned (v0_) ∧ Kd.R (Kd.int .i64) 3 w' w.heap.size (fun _ => True) v0_ r ∧ Below w.heap.size w w' := by
  have hu35 := Try.underlying35
  have HR0_5 := Aside0.mk hr0_5
  have HC0_5 := Aside0.mk hc0_5
  clear hr0_5 hc0_5
  have HB := Aside0.mk (Below.refl w.heap.size w)
  have H : ((conf_Owners.f k a0_0 a0_1 a0_2 a0_3 a0_4 l0_5 a1).bind fun t106102 => (conf_Voters.l0 k t106102 ([] : List Int) (mn a0_0 12) 0)) = some r := h
  clear h
  replace H := Option.bind_eq_some_iff.mp H
  obtain ⟨t106102, A30, H⟩ := H
  replace H : (conf_Voters.l0 k t106102 ([] : List Int) (mn a0_0 12) 0) = some r := H
  have A3 := Aside0.mk A30
  clear A30
  obtain ⟨ji4, hji4⟩ : ∃ j_ : Int, (mn a0_0 12) = j_ := ⟨_, rfl⟩
  replace H : (conf_Voters.l0 k t106102 ([] : List Int) ji4 0) = some r := by first | (rw [hji4] at H; exact H) | (simp only [hji4] at H ⊢; exact H)
  (try rw [hji4] at A3)
  (try (have hji4h : ji4 ≤ 12 := by (rw [← hji4]; unfold mn; (repeat' split) <;> omega)))
  (try (have hji4g : ji4 ≤ 64 := by omega))
  have hji4_ : (if 12 < a0_0 then 12 else a0_0) = ji4 := hji4
  have H' := Aside0.mk H
  clear H
  go_enter Try.func53, Try.ntmps53
  go_wp2_with (first | ((with_reducible refine gate_dst (N := 2) rfl ?_); refine box_event ?hg (N := 2) ?hd (cs := #[.int .i64 a0_0, .int .i64 a0_1, .int .i64 a0_2, .int .i64 a0_3, .int .i64 a0_4, .slice A0_5 l0_5.length c0_5]) (t := 35) ?hr ?_; (case hd => rfl); (case hg => rfl); (case hr => first | (go_simp; done) | (go_simp; rfl)); intro gb106101 hg w5 hbox hb; have n0_ := Aside0.mk (below_step (by repeat (first | (with_reducible first | exact HB.out | apply below_alloc | apply pw_below_drewN | apply below_drew1) | exact HB.out)) hb); have n1_ := Aside0.mk (hbox); have n2_ := Aside0.mk ((by rw [hg]; exact (below_size (by repeat (first | (with_reducible first | exact HB.out | apply below_alloc | apply pw_below_drewN | apply below_drew1) | exact HB.out))) : w.heap.size ≤ gb106101)); have n3_ := Aside0.mk ((by rw [hg]; exact (below_size (by repeat (first | (with_reducible first | exact HB.out | apply below_alloc | apply pw_below_drewN | apply below_drew1) | exact HB.out))) : w.heap.size ≤ gb106101)); clear HB; have HB := n0_; have BK106101 := n1_; have GW106101 := n2_; have GE106101 := n3_; clear n0_ n1_ n2_ n3_; clear hb hbox hg; have hcz6_0 : w5.cell? ⟨gb106101, 0, none⟩ = some (.int .i64 a0_0) := (blk_cell BK106101.out 0).trans rfl; have hcz6_1 : w5.cell? ⟨gb106101, 1, none⟩ = some (.int .i64 a0_1) := (blk_cell BK106101.out 1).trans rfl; have hcz6_2 : w5.cell? ⟨gb106101, 2, none⟩ = some (.int .i64 a0_2) := (blk_cell BK106101.out 2).trans rfl; have hcz6_3 : w5.cell? ⟨gb106101, 3, none⟩ = some (.int .i64 a0_3) := (blk_cell BK106101.out 3).trans rfl; have hcz6_4 : w5.cell? ⟨gb106101, 4, none⟩ = some (.int .i64 a0_4) := (blk_cell BK106101.out 4).trans rfl; have hcz6_5 : w5.cell? ⟨gb106101, 5, none⟩ = some (.slice A0_5 l0_5.length c0_5) := (blk_cell BK106101.out 5).trans rfl; have hfz6_0 := blk_frozen BK106101.out 0; have hfz6_1 := blk_frozen BK106101.out 1; have hfz6_2 := blk_frozen BK106101.out 2; have hfz6_3 := blk_frozen BK106101.out 3; have hfz6_4 := blk_frozen BK106101.out 4; have hfz6_5 := blk_frozen BK106101.out 5) | ((with_reducible refine gate_callee (f := 52) rfl ?_); refine goesL_ (some 10) rfl rfl Try.func52 (by kernel_rfl) rfl #[.agg #[.int .i64 a0_0, .int .i64 a0_1, .int .i64 a0_2, .int .i64 a0_3, .int .i64 a0_4, .slice A0_5 l0_5.length c0_5], .int .i64 a1] rfl (by (try simp only [List.map_toArray, List.map_cons, List.map_nil]); first | done | rfl | (simp only [List.length_drop, List.length_take]; rfl)) ?_; (with_reducible refine (conf_Owners.calls k a0_0 a0_1 a0_2 a0_3 a0_4 _ _ l0_5 a1 t106102 _ ?side1 ?side2 A3.out).mono ?_); (case side1 => repeat (first | exact (Kd.C_below HR0_5.out HB.out) | (with_reducible refine Kd.C_alloc ?_ _) | (with_reducible refine Kd.C_drewN ?_ _) | (with_reducible refine Kd.C_drew ?_))); (case side2 => exact HC0_5.out); rintro e w7 ⟨v106103, rfl, ho0, hb⟩; refine ⟨_, rfl, ?_⟩; have n0_ := Aside0.mk (Kd.R_lower ho0 (below_size (by repeat (first | (with_reducible first | exact HB.out | apply below_alloc | apply pw_below_drewN | apply below_drew1 | refine below_set ?_ GE106101.out) | exact HB.out)))); have n1_ := Aside0.mk (blk_below (g := gb106101) (o := .cells #[.int .i64 a0_0, .int .i64 a0_1, .int .i64 a0_2, .int .i64 a0_3, .int .i64 a0_4, .slice A0_5 l0_5.length c0_5] 35 (0, 0)) (by (with_reducible repeat (first | refine blk_drewN ?_ _ | refine blk_drew ?_ | refine blk_alloc ?_ _)); exact BK106101.out) hb); have n2_ := Aside0.mk (below_step (by repeat (first | (with_reducible first | exact HB.out | apply below_alloc | apply pw_below_drewN | apply below_drew1 | refine below_set ?_ GE106101.out) | exact HB.out)) hb); clear BK106101; clear HB; have HO106104 := n0_; have BK106101 := n1_; have HB := n2_; clear n0_ n1_ n2_; (try clear hb); (try clear hb2); (try clear hk); (try clear hi); (try clear ho0); have hcz8_0 : w7.cell? ⟨gb106101, 0, none⟩ = some (.int .i64 a0_0) := (blk_cell BK106101.out 0).trans rfl; have hcz8_1 : w7.cell? ⟨gb106101, 1, none⟩ = some (.int .i64 a0_1) := (blk_cell BK106101.out 1).trans rfl; have hcz8_2 : w7.cell? ⟨gb106101, 2, none⟩ = some (.int .i64 a0_2) := (blk_cell BK106101.out 2).trans rfl; have hcz8_3 : w7.cell? ⟨gb106101, 3, none⟩ = some (.int .i64 a0_3) := (blk_cell BK106101.out 3).trans rfl; have hcz8_4 : w7.cell? ⟨gb106101, 4, none⟩ = some (.int .i64 a0_4) := (blk_cell BK106101.out 4).trans rfl; have hcz8_5 : w7.cell? ⟨gb106101, 5, none⟩ = some (.slice A0_5 l0_5.length c0_5) := (blk_cell BK106101.out 5).trans rfl; have hfz8_0 := blk_frozen BK106101.out 0; have hfz8_1 := blk_frozen BK106101.out 1; have hfz8_2 := blk_frozen BK106101.out 2; have hfz8_3 := blk_frozen BK106101.out 3; have hfz8_4 := blk_frozen BK106101.out 4; have hfz8_5 := blk_frozen BK106101.out 5))
  go_loopg [6, 14] k (fun kq v6 v14 w' => ∃ (x6_1 : List Int) (x14_1 : Int), v14 = .int .i64 x14_1 ∧ Aside0 (conf_Voters.l0 kq t106102 x6_1 ji4 x14_1 = some r) ∧ Aside0 (kq ≤ k) ∧ Aside0 (Kd.R (Kd.int .i64) 3 w' w.heap.size (fun k_ => some k_ ≠ (v6 : Value).ownBlock) v106103 t106102) ∧ Aside0 (Kd.R (Kd.int .i64) 3 w' w.heap.size (fun k_ => some k_ ≠ (v106103 : Value).ownBlock) v6 x6_1) ∧ Aside0 (w'.heap[gb106101]? = some (.cells #[.int .i64 a0_0, .int .i64 a0_1, .int .i64 a0_2, .int .i64 a0_3, .int .i64 a0_4, (.slice A0_5 l0_5.length c0_5)] 35 (0, 0))) ∧ Aside0 (Below w.heap.size w w'))
  case atStart => exact ⟨(([] : List Int)), (0), (by first | rfl | (simp; done) | (simp [*]; done)), H', ⟨Nat.le_refl _⟩, ⟨by (with_reducible repeat (first | apply Kd.R_alloc | apply Kd.R_drewN | apply Kd.R_drew)); exact Kd.R_mono HO106104.out (fun _ hk => (by simp [Value.ownBlock]))⟩, ⟨by first | exact Kd.R_nil _ _ _ _ _ | exact Kd.N_nil _ _ _ _ _ | exact Kd.V_nil _ _ _ _ _ | exact Kd.Q_nil _ _ _ _ _ | exact Kd.S_nil _ _ _ _ _⟩, ⟨by (with_reducible repeat (first | refine blk_drewN ?_ _ | refine blk_drew ?_ | refine blk_alloc ?_ _)); exact BK106101.out⟩, ⟨by repeat (first | (with_reducible first | exact HB.out | apply below_alloc | apply pw_below_drewN | apply below_drew1 | refine below_set ?_ GE106101.out) | exact HB.out)⟩⟩
  case round =>
    clear H'
    try clear p2
    try clear c5
    try clear hcz6_0
    try clear hcz6_1
    try clear hcz6_2
    try clear hcz6_3
    try clear hcz6_4
    try clear hcz6_5
    try clear hcz8_0
    try clear hcz8_1
    try clear hcz8_2
    try clear hcz8_3
    try clear hcz8_4
    try clear hcz8_5
    try clear hfz6_0
    try clear hfz6_1
    try clear hfz6_2
    try clear hfz6_3
    try clear hfz6_4
    try clear hfz6_5
    try clear hfz8_0
    try clear hfz8_1
    try clear hfz8_2
    try clear hfz8_3
    try clear hfz8_4
    try clear hfz8_5
    obtain ⟨x6_1, x14_1, rfl, HA, HK1, HO_5, HO_6, BK106101, HB⟩ := hrel
    cases gk with
    | zero => exact absurd HA.out (by simp [conf_Voters.l0])
    | succ k1 =>
      have H := HA.out
      clear HA
      simp only [conf_Voters.l0] at H
      by_cases c9 : x14_1 < ji4
      · rw [if_pos c9] at H
        have c9b0 : decide (x14_1 < ji4) = true := decide_eq_true c9
        clear c9
        replace H := Option.bind_eq_some_iff.mp H
        obtain ⟨t106105, A100, H⟩ := H
        replace H : (if t106105 = true then (conf_Voters.l0 k1 t106102 x6_1 ji4 (wrap64 (x14_1 + 1))) else (if x6_1.length < 17592186044416 then (conf_Voters.l0 k1 t106102 (x6_1 ++ [x14_1]) ji4 (wrap64 (x14_1 + 1))) else (none))) = some r := H
        have A10 := Aside0.mk A100
        clear A100
        by_cases c11 : t106105 = true
        · subst c11
          have H1 : (conf_Voters.l0 k1 t106102 x6_1 ji4 (wrap64 (x14_1 + 1))) = some r := by rw [if_pos rfl] at H; exact H
          clear H
          have H := H1
          clear H1
          have H' := Aside0.mk H
          clear H
          obtain ⟨Ao12, co12, eo12⟩ := Kd.R_slice HO_5.out
          subst eo12
          go_wp2_with (first | ((with_reducible refine gate_callee (f := 66) rfl ?_); refine goesL_ (some 19) rfl rfl Try.func66 (by kernel_rfl) rfl #[.slice Ao12 t106102.length co12, .int .i64 x14_1] rfl (by (try simp only [List.map_toArray, List.map_cons, List.map_nil]); first | done | rfl | (simp only [List.length_drop, List.length_take]; rfl)) ?_; (with_reducible refine (slices_Contains_int_int.calls k1 _ _ t106102 x14_1 true _ ?side1 ?side2 A10.out).mono ?_); (case side1 => repeat (first | exact (Kd.R_reads' HO_5.out).2.2 | (with_reducible refine Kd.C_alloc ?_ _) | (with_reducible refine Kd.C_drewN ?_ _) | (with_reducible refine Kd.C_drew ?_))); (case side2 => exact (Kd.R_reads' HO_5.out).2.1); rintro e w' ⟨rfl, ⟨nd, rfl⟩⟩; refine ⟨_, rfl, ?_⟩))
          go_roundg k1
          case measure => have := HK1.out; omega
          case rel => exact ⟨(x6_1), (wrap64 (x14_1 + 1)), (by first | rfl | (simp; done) | (simp [*]; done)), H', ⟨by have := HK1.out; omega⟩, ⟨by (with_reducible repeat (first | apply Kd.R_alloc | apply Kd.R_drewN | apply Kd.R_drew)); exact HO_5.out⟩, ⟨by (with_reducible repeat (first | apply Kd.R_alloc | apply Kd.R_drewN | apply Kd.R_drew)); exact HO_6.out⟩, ⟨by (with_reducible repeat (first | refine blk_drewN ?_ _ | refine blk_drew ?_ | refine blk_alloc ?_ _)); exact BK106101.out⟩, ⟨by repeat (first | (with_reducible first | exact HB.out | apply below_alloc | apply pw_below_drewN | apply below_drew1 | refine below_set ?_ GE106101.out) | exact HB.out)⟩⟩
        · replace c11 := Bool.eq_false_iff.mpr c11
          subst c11
          have H1 : (if x6_1.length < 17592186044416 then (conf_Voters.l0 k1 t106102 (x6_1 ++ [x14_1]) ji4 (wrap64 (x14_1 + 1))) else (none)) = some r := by rw [if_neg (show ¬ (false = true) by decide)] at H; exact H
          clear H
          have H := H1
          clear H1
          by_cases c13 : x6_1.length < 17592186044416
          · rw [if_pos c13] at H
            have LMc13 := Aside0.mk c13
            clear c13
            obtain ⟨y106106, hy106106⟩ : ∃ y_ : List Int, y_ = (x6_1 ++ [x14_1]) := ⟨_, rfl⟩
            replace H : (conf_Voters.l0 k1 t106102 y106106 ji4 (wrap64 (x14_1 + 1))) = some r := by first | (rw [hy106106]; with_reducible exact H) | (have H2_ := (Option.bind_some _ _).symm.trans H; rw [hy106106]; with_reducible exact H2_) | (have H2_ := (Option.bind_some _ _).symm.trans H; with_reducible exact H2_) | with_reducible exact H | (rw [hy106106]; exact H) | exact H
            have Ny106106 := Aside0.mk hy106106
            clear hy106106
            have H' := Aside0.mk H
            clear H
            obtain ⟨Ao14, co14, eo14⟩ := Kd.R_slice HO_5.out
            subst eo14
            go_wp2_with (first | ((with_reducible refine gate_callee (f := 66) rfl ?_); refine goesL_ (some 19) rfl rfl Try.func66 (by kernel_rfl) rfl #[.slice Ao14 t106102.length co14, .int .i64 x14_1] rfl (by (try simp only [List.map_toArray, List.map_cons, List.map_nil]); first | done | rfl | (simp only [List.length_drop, List.length_take]; rfl)) ?_; (with_reducible refine (slices_Contains_int_int.calls k1 _ _ t106102 x14_1 false _ ?side1 ?side2 A10.out).mono ?_); (case side1 => repeat (first | exact (Kd.R_reads' HO_5.out).2.2 | (with_reducible refine Kd.C_alloc ?_ _) | (with_reducible refine Kd.C_drewN ?_ _) | (with_reducible refine Kd.C_drew ?_))); (case side2 => exact (Kd.R_reads' HO_5.out).2.1); rintro e w' ⟨rfl, ⟨nd, rfl⟩⟩; refine ⟨_, rfl, ?_⟩) | ((with_reducible refine gate_builtin (b := .append) (xs := #[.tmp 21, .tmp 23]) rfl ?_); at_builtin; refine Kd.R_append (Kd.int .i64) (w0 := w) w.heap.size rfl (.tmp 21) (.tmp 23) 33 3 (.int .i64 0) 8 rfl Try.underlying33 info3 rfl (by decide) (by omega) u6 x6_1 x14_1 [.int .i64 x14_1] (fun k_ => some k_ ≠ (.slice Ao14 t106102.length co14 : Value).ownBlock) (fun _ => False) rfl rfl ?aP (fun _ hk => hk.elim) ?aF ?aO ?aB ?aS ?aL ?_; (case aP => exact rfl); (case aB => exact (by repeat (first | (with_reducible first | exact HB.out | apply below_alloc | apply pw_below_drewN | apply below_drew1 | refine below_set ?_ GE106101.out) | exact HB.out))); (case aF => exact (fun k_ hk => Kd.fresh' (Kd.R_lt (by (with_reducible repeat (first | apply Kd.R_alloc | apply Kd.R_drewN | apply Kd.R_drew)); exact HO_5.out)) k_ hk)); (case aO => exact (by (with_reducible repeat (first | apply Kd.R_alloc | apply Kd.R_drewN | apply Kd.R_drew)); exact HO_6.out)); (case aS => exact (below_size (by repeat (first | (with_reducible first | exact HB.out | apply below_alloc | apply pw_below_drewN | apply below_drew1 | refine below_set ?_ GE106101.out) | exact HB.out)))); (case aL => have := LMc13.out; omega); intro v106107 w15 ho hb hg hat; rw [← Ny106106.out] at ho; have n0_ := Aside0.mk (Kd.R_after (ok := (fun _ => True)) (by (with_reducible repeat (first | apply Kd.R_alloc | apply Kd.R_drewN | apply Kd.R_drew)); exact Kd.R_mono HO_5.out (fun _ hk => ⟨trivial, hk⟩)) hg hat); have n1_ := Aside0.mk (blk_grown (g := gb106101) (o := .cells #[.int .i64 a0_0, .int .i64 a0_1, .int .i64 a0_2, .int .i64 a0_3, .int .i64 a0_4, .slice A0_5 l0_5.length c0_5] 35 (0, 0)) (by (with_reducible repeat (first | refine blk_drewN ?_ _ | refine blk_drew ?_ | refine blk_alloc ?_ _)); exact BK106101.out) hg (Kd.R_ne HO_6.out BK106101.out (by decide))); have n2_ := Aside0.mk (hb); have n3_ := Aside0.mk (ho); clear HO_5; clear BK106101; clear HB; clear HO_6; have HO_5 := n0_; have BK106101 := n1_; have HB := n2_; have HO106108 := n3_; clear n0_ n1_ n2_ n3_; clear ho hb hg hat))
            go_roundg k1
            case measure => have := HK1.out; omega
            case rel => exact ⟨(y106106), (wrap64 (x14_1 + 1)), (by first | rfl | (simp; done) | (simp [*]; done)), H', ⟨by have := HK1.out; omega⟩, ⟨by (with_reducible repeat (first | apply Kd.R_alloc | apply Kd.R_drewN | apply Kd.R_drew)); exact Kd.R_mono HO_5.out (fun _ hk => hk.2)⟩, ⟨by (with_reducible repeat (first | apply Kd.R_alloc | apply Kd.R_drewN | apply Kd.R_drew)); exact HO106108.out⟩, ⟨by (with_reducible repeat (first | refine blk_drewN ?_ _ | refine blk_drew ?_ | refine blk_alloc ?_ _)); exact BK106101.out⟩, ⟨by repeat (first | (with_reducible first | exact HB.out | apply below_alloc | apply pw_below_drewN | apply below_drew1 | refine below_set ?_ GE106101.out) | exact HB.out)⟩⟩
          · rw [if_neg c13] at H
            exact absurd H (by simp)
      · rw [if_neg c9] at H
        have c9b0 : decide (x14_1 < ji4) = false := decide_eq_false c9
        clear c9
        obtain rfl := Option.some.inj H
        go_wp2
        go_ret
        exact ⟨_, by first | rfl | (simp [errW_none, errW_some] <;> rfl) | (simp only [← hji4]; first | rfl | (simp [errW_none, errW_some] <;> rfl)) | (simp [*, errW_none, errW_some] <;> rfl), by (with_reducible repeat (first | apply Kd.R_alloc | apply Kd.R_drewN | apply Kd.R_drew)); exact Kd.R_mono HO_6.out (fun _ hk => trivial), by repeat (first | (with_reducible first | exact HB.out | apply below_alloc | apply pw_below_drewN | apply below_drew1 | refine below_set ?_ GE106101.out) | exact HB.out)⟩

end Go.Proofs.Ytdkbalaphblobaa.P
