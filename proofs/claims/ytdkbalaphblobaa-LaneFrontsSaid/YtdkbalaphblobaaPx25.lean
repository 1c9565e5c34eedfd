/- Printed by a program of this session (myprint) out of the translation: the functions as plain Lean functions, and that the calls compute them. What counts is Lean's check. -/
import Derived.Test.YtdkbalaphblobaaPx0
import Derived.Test.YtdkbalaphblobaaPx16
import Derived.Test.YtdkbalaphblobaaPx19
import Derived.Test.YtdkbalaphblobaaPx20
import Derived.Test.YtdkbalaphblobaaPx21
namespace Go.Proofs.Ytdkbalaphblobaa.P
open Go.RowKit Go.Proofs.YtdkbalaphblobaaW.PrintWords Go.Proofs.YtdkbalaphblobaaW.PrintLast Go.Proofs.YtdkbalaphblobaaW.PrintMore
attribute [local go_sem] max2_int min2_int max_two min_two max_three min_three max_four min_four   -- for this text's walks alone
set_option linter.unusedVariables false
set_option linter.unusedSimpArgs false

/-! ### plaitinglaw7_LaneFronts: function 12 -/
def plaitinglaw7_LaneFronts.f (k : Nat) (l0 : List Int) (l1 : List Int) (l2 : List Int) : Option (Bool) := (plaitinglaw7_known.f).bind fun t24101 => (if t24101 = true then ((plaitinglaw1_Text.f k l2).bind fun t24102 => ((plaitinglaw1_Text.f k l0).bind fun t24103 => (if t24102.size + t24103.size ≤ 9223372036854775807 then ((plaitinglaw1_Text.f k l1).bind fun t24104 => (if t24102.size + t24104.size ≤ 9223372036854775807 then ((lane_Out.f true (t24102 ++ t24103) (t24102 ++ t24104)).bind fun t24105 => ((plaitingref1_Front.f t24105 (t24102 ++ t24103)).bind fun t24106 => (if t24106 = true then ((plaitingref1_Front.f t24105 (t24102 ++ t24104)).bind fun t24107 => (if t24107 = true then ((lane_Out.f true (t24102 ++ t24104) (t24102 ++ t24103)).bind fun t24108 => (if t24108.toList = t24105.toList then ((lane_Out.f true t24105 t24105).bind fun t24109 => (if t24109.toList = t24105.toList then ((lane_Out.f true t24105 (t24102 ++ t24103)).bind fun t24110 => (if t24110.toList = t24105.toList then ((lane_Out.f false t24105 (t24102 ++ t24104)).bind fun t24111 => (if t24111.toList = t24105.toList then ((lane_Out.f true (t24102 ++ t24103) (t24102 ++ t24103)).bind fun t24112 => ((plaitingref1_Clean.f k (t24102 ++ t24103)).bind fun t24113 => (if t24112.toList = t24113.toList then ((lane_Out.f false (t24102 ++ t24103) (t24102 ++ t24104)).bind fun t24114 => ((plaitingref1_Front.f t24105 t24114).bind fun t24115 => (some t24115))) else (some false)))) else (some false))) else (some false))) else (some false))) else (some false))) else (some false))) else (some false)))) else (none))) else (none)))) else (some false))
theorem plaitinglaw7_LaneFronts.mono : ∀ a0 a1 a2 k, LeO (plaitinglaw7_LaneFronts.f k a0 a1 a2) (plaitinglaw7_LaneFronts.f (k + 1) a0 a1 a2) := by
  intro a0 a1 a2 k
  unfold plaitinglaw7_LaneFronts.f
  repeat' first
      | (with_reducible exact plaitinglaw1_Text.mono _ _)
      | (with_reducible exact plaitingref1_Clean.mono _ _)
      | (with_reducible exact LeO.refl _)
      | (with_reducible exact LeO.none _)
      | (with_reducible refine LeO.ite ?_ ?_)
      | (with_reducible refine LeO.bind ?_ (fun _ => ?_))
      | exact plaitinglaw1_Text.mono _ _
      | exact plaitingref1_Clean.mono _ _
      | exact LeO.none _
      | refine LeO.ite ?_ ?_
      | refine LeO.bind ?_ (fun _ => ?_)
set_option maxHeartbeats 8000000 in
set_option maxRecDepth 100000 in
theorem plaitinglaw7_LaneFronts.calls (k : Nat) (A0 : Option Addr) (c0 : Nat) (l0 : List Int) (A1 : Option Addr) (c1 : Nat) (l1 : List Int) (A2 : Option Addr) (c2 : Nat) (l2 : List Int) (r : Bool) (w : World) (hr0 : Kd.C (Kd.int .i64) w A0 l0.length l0) (hc0 : l0.length ≤ c0) (hr1 : Kd.C (Kd.int .i64) w A1 l1.length l1) (hc1 : l1.length ≤ c1) (hr2 : Kd.C (Kd.int .i64) w A2 l2.length l2) (hc2 : l2.length ≤ c2) (hrt : r = true) (h : plaitinglaw7_LaneFronts.f k l0 l1 l2 = some r) :
    Calls Try.prog 12 #[.slice A0 l0.length c0, .slice A1 l1.length c1, .slice A2 l2.length c2] w fun e w' => e = .returned (.bool r) ∧ Below w.heap.size w w' := by
  have HRT := Aside0.mk hrt
  clear hrt
  have HR0 := Aside0.mk hr0
  have HC0 := Aside0.mk hc0
  clear hr0 hc0
  have HR1 := Aside0.mk hr1
  have HC1 := Aside0.mk hc1
  clear hr1 hc1
  have HR2 := Aside0.mk hr2
  have HC2 := Aside0.mk hc2
  clear hr2 hc2
  have HB := Aside0.mk (Below.refl w.heap.size w)
  have H : ((plaitinglaw7_known.f).bind fun t24101 => (if t24101 = true then ((plaitinglaw1_Text.f k l2).bind fun t24102 => ((plaitinglaw1_Text.f k l0).bind fun t24103 => (if t24102.size + t24103.size ≤ 9223372036854775807 then ((plaitinglaw1_Text.f k l1).bind fun t24104 => (if t24102.size + t24104.size ≤ 9223372036854775807 then ((lane_Out.f true (t24102 ++ t24103) (t24102 ++ t24104)).bind fun t24105 => ((plaitingref1_Front.f t24105 (t24102 ++ t24103)).bind fun t24106 => (if t24106 = true then ((plaitingref1_Front.f t24105 (t24102 ++ t24104)).bind fun t24107 => (if t24107 = true then ((lane_Out.f true (t24102 ++ t24104) (t24102 ++ t24103)).bind fun t24108 => (if t24108.toList = t24105.toList then ((lane_Out.f true t24105 t24105).bind fun t24109 => (if t24109.toList = t24105.toList then ((lane_Out.f true t24105 (t24102 ++ t24103)).bind fun t24110 => (if t24110.toList = t24105.toList then ((lane_Out.f false t24105 (t24102 ++ t24104)).bind fun t24111 => (if t24111.toList = t24105.toList then ((lane_Out.f true (t24102 ++ t24103) (t24102 ++ t24103)).bind fun t24112 => ((plaitingref1_Clean.f k (t24102 ++ t24103)).bind fun t24113 => (if t24112.toList = t24113.toList then ((lane_Out.f false (t24102 ++ t24103) (t24102 ++ t24104)).bind fun t24114 => ((plaitingref1_Front.f t24105 t24114).bind fun t24115 => (some t24115))) else (some false)))) else (some false))) else (some false))) else (some false))) else (some false))) else (some false))) else (some false)))) else (none))) else (none)))) else (some false))) = some r := h
  clear h
  replace H := Option.bind_eq_some_iff.mp H
  obtain ⟨t24101, A40, H⟩ := H
  replace H : (if t24101 = true then ((plaitinglaw1_Text.f k l2).bind fun t24102 => ((plaitinglaw1_Text.f k l0).bind fun t24103 => (if t24102.size + t24103.size ≤ 9223372036854775807 then ((plaitinglaw1_Text.f k l1).bind fun t24104 => (if t24102.size + t24104.size ≤ 9223372036854775807 then ((lane_Out.f true (t24102 ++ t24103) (t24102 ++ t24104)).bind fun t24105 => ((plaitingref1_Front.f t24105 (t24102 ++ t24103)).bind fun t24106 => (if t24106 = true then ((plaitingref1_Front.f t24105 (t24102 ++ t24104)).bind fun t24107 => (if t24107 = true then ((lane_Out.f true (t24102 ++ t24104) (t24102 ++ t24103)).bind fun t24108 => (if t24108.toList = t24105.toList then ((lane_Out.f true t24105 t24105).bind fun t24109 => (if t24109.toList = t24105.toList then ((lane_Out.f true t24105 (t24102 ++ t24103)).bind fun t24110 => (if t24110.toList = t24105.toList then ((lane_Out.f false t24105 (t24102 ++ t24104)).bind fun t24111 => (if t24111.toList = t24105.toList then ((lane_Out.f true (t24102 ++ t24103) (t24102 ++ t24103)).bind fun t24112 => ((plaitingref1_Clean.f k (t24102 ++ t24103)).bind fun t24113 => (if t24112.toList = t24113.toList then ((lane_Out.f false (t24102 ++ t24103) (t24102 ++ t24104)).bind fun t24114 => ((plaitingref1_Front.f t24105 t24114).bind fun t24115 => (some t24115))) else (some false)))) else (some false))) else (some false))) else (some false))) else (some false))) else (some false))) else (some false)))) else (none))) else (none)))) else (some false)) = some r := H
  have A4 := Aside0.mk A40
  clear A40
  by_cases c5 : t24101 = true
  · subst c5
    have H1 : ((plaitinglaw1_Text.f k l2).bind fun t24102 => ((plaitinglaw1_Text.f k l0).bind fun t24103 => (if t24102.size + t24103.size ≤ 9223372036854775807 then ((plaitinglaw1_Text.f k l1).bind fun t24104 => (if t24102.size + t24104.size ≤ 9223372036854775807 then ((lane_Out.f true (t24102 ++ t24103) (t24102 ++ t24104)).bind fun t24105 => ((plaitingref1_Front.f t24105 (t24102 ++ t24103)).bind fun t24106 => (if t24106 = true then ((plaitingref1_Front.f t24105 (t24102 ++ t24104)).bind fun t24107 => (if t24107 = true then ((lane_Out.f true (t24102 ++ t24104) (t24102 ++ t24103)).bind fun t24108 => (if t24108.toList = t24105.toList then ((lane_Out.f true t24105 t24105).bind fun t24109 => (if t24109.toList = t24105.toList then ((lane_Out.f true t24105 (t24102 ++ t24103)).bind fun t24110 => (if t24110.toList = t24105.toList then ((lane_Out.f false t24105 (t24102 ++ t24104)).bind fun t24111 => (if t24111.toList = t24105.toList then ((lane_Out.f true (t24102 ++ t24103) (t24102 ++ t24103)).bind fun t24112 => ((plaitingref1_Clean.f k (t24102 ++ t24103)).bind fun t24113 => (if t24112.toList = t24113.toList then ((lane_Out.f false (t24102 ++ t24103) (t24102 ++ t24104)).bind fun t24114 => ((plaitingref1_Front.f t24105 t24114).bind fun t24115 => (some t24115))) else (some false)))) else (some false))) else (some false))) else (some false))) else (some false))) else (some false))) else (some false)))) else (none))) else (none)))) = some r := by rw [if_pos rfl] at H; exact H
    clear H
    have H := H1
    clear H1
    replace H := Option.bind_eq_some_iff.mp H
    obtain ⟨t24102, A60, H⟩ := H
    replace H : ((plaitinglaw1_Text.f k l0).bind fun t24103 => (if t24102.size + t24103.size ≤ 9223372036854775807 then ((plaitinglaw1_Text.f k l1).bind fun t24104 => (if t24102.size + t24104.size ≤ 9223372036854775807 then ((lane_Out.f true (t24102 ++ t24103) (t24102 ++ t24104)).bind fun t24105 => ((plaitingref1_Front.f t24105 (t24102 ++ t24103)).bind fun t24106 => (if t24106 = true then ((plaitingref1_Front.f t24105 (t24102 ++ t24104)).bind fun t24107 => (if t24107 = true then ((lane_Out.f true (t24102 ++ t24104) (t24102 ++ t24103)).bind fun t24108 => (if t24108.toList = t24105.toList then ((lane_Out.f true t24105 t24105).bind fun t24109 => (if t24109.toList = t24105.toList then ((lane_Out.f true t24105 (t24102 ++ t24103)).bind fun t24110 => (if t24110.toList = t24105.toList then ((lane_Out.f false t24105 (t24102 ++ t24104)).bind fun t24111 => (if t24111.toList = t24105.toList then ((lane_Out.f true (t24102 ++ t24103) (t24102 ++ t24103)).bind fun t24112 => ((plaitingref1_Clean.f k (t24102 ++ t24103)).bind fun t24113 => (if t24112.toList = t24113.toList then ((lane_Out.f false (t24102 ++ t24103) (t24102 ++ t24104)).bind fun t24114 => ((plaitingref1_Front.f t24105 t24114).bind fun t24115 => (some t24115))) else (some false)))) else (some false))) else (some false))) else (some false))) else (some false))) else (some false))) else (some false)))) else (none))) else (none))) = some r := H
    have A6 := Aside0.mk A60
    clear A60
    replace H := Option.bind_eq_some_iff.mp H
    obtain ⟨t24103, A70, H⟩ := H
    replace H : (if t24102.size + t24103.size ≤ 9223372036854775807 then ((plaitinglaw1_Text.f k l1).bind fun t24104 => (if t24102.size + t24104.size ≤ 9223372036854775807 then ((lane_Out.f true (t24102 ++ t24103) (t24102 ++ t24104)).bind fun t24105 => ((plaitingref1_Front.f t24105 (t24102 ++ t24103)).bind fun t24106 => (if t24106 = true then ((plaitingref1_Front.f t24105 (t24102 ++ t24104)).bind fun t24107 => (if t24107 = true then ((lane_Out.f true (t24102 ++ t24104) (t24102 ++ t24103)).bind fun t24108 => (if t24108.toList = t24105.toList then ((lane_Out.f true t24105 t24105).bind fun t24109 => (if t24109.toList = t24105.toList then ((lane_Out.f true t24105 (t24102 ++ t24103)).bind fun t24110 => (if t24110.toList = t24105.toList then ((lane_Out.f false t24105 (t24102 ++ t24104)).bind fun t24111 => (if t24111.toList = t24105.toList then ((lane_Out.f true (t24102 ++ t24103) (t24102 ++ t24103)).bind fun t24112 => ((plaitingref1_Clean.f k (t24102 ++ t24103)).bind fun t24113 => (if t24112.toList = t24113.toList then ((lane_Out.f false (t24102 ++ t24103) (t24102 ++ t24104)).bind fun t24114 => ((plaitingref1_Front.f t24105 t24114).bind fun t24115 => (some t24115))) else (some false)))) else (some false))) else (some false))) else (some false))) else (some false))) else (some false))) else (some false)))) else (none))) else (none)) = some r := H
    have A7 := Aside0.mk A70
    clear A70
    by_cases c8 : t24102.size + t24103.size ≤ 9223372036854775807
    · rw [if_pos c8] at H
      have c8b0 := eq_true c8
      have c8b1 : decide (t24102.size + t24103.size ≤ 9223372036854775807) = true := decide_eq_true c8
      try have c8b2 : (9223372036854775807 < t24102.size + t24103.size) = False := eq_false (Nat.not_lt.2 c8)
      replace H := Option.bind_eq_some_iff.mp H
      obtain ⟨t24104, A90, H⟩ := H
      replace H : (if t24102.size + t24104.size ≤ 9223372036854775807 then ((lane_Out.f true (t24102 ++ t24103) (t24102 ++ t24104)).bind fun t24105 => ((plaitingref1_Front.f t24105 (t24102 ++ t24103)).bind fun t24106 => (if t24106 = true then ((plaitingref1_Front.f t24105 (t24102 ++ t24104)).bind fun t24107 => (if t24107 = true then ((lane_Out.f true (t24102 ++ t24104) (t24102 ++ t24103)).bind fun t24108 => (if t24108.toList = t24105.toList then ((lane_Out.f true t24105 t24105).bind fun t24109 => (if t24109.toList = t24105.toList then ((lane_Out.f true t24105 (t24102 ++ t24103)).bind fun t24110 => (if t24110.toList = t24105.toList then ((lane_Out.f false t24105 (t24102 ++ t24104)).bind fun t24111 => (if t24111.toList = t24105.toList then ((lane_Out.f true (t24102 ++ t24103) (t24102 ++ t24103)).bind fun t24112 => ((plaitingref1_Clean.f k (t24102 ++ t24103)).bind fun t24113 => (if t24112.toList = t24113.toList then ((lane_Out.f false (t24102 ++ t24103) (t24102 ++ t24104)).bind fun t24114 => ((plaitingref1_Front.f t24105 t24114).bind fun t24115 => (some t24115))) else (some false)))) else (some false))) else (some false))) else (some false))) else (some false))) else (some false))) else (some false)))) else (none)) = some r := H
      have A9 := Aside0.mk A90
      clear A90
      by_cases c10 : t24102.size + t24104.size ≤ 9223372036854775807
      · rw [if_pos c10] at H
        have c10b0 := eq_true c10
        have c10b1 : decide (t24102.size + t24104.size ≤ 9223372036854775807) = true := decide_eq_true c10
        try have c10b2 : (9223372036854775807 < t24102.size + t24104.size) = False := eq_false (Nat.not_lt.2 c10)
        replace H := Option.bind_eq_some_iff.mp H
        obtain ⟨t24105, A110, H⟩ := H
        replace H : ((plaitingref1_Front.f t24105 (t24102 ++ t24103)).bind fun t24106 => (if t24106 = true then ((plaitingref1_Front.f t24105 (t24102 ++ t24104)).bind fun t24107 => (if t24107 = true then ((lane_Out.f true (t24102 ++ t24104) (t24102 ++ t24103)).bind fun t24108 => (if t24108.toList = t24105.toList then ((lane_Out.f true t24105 t24105).bind fun t24109 => (if t24109.toList = t24105.toList then ((lane_Out.f true t24105 (t24102 ++ t24103)).bind fun t24110 => (if t24110.toList = t24105.toList then ((lane_Out.f false t24105 (t24102 ++ t24104)).bind fun t24111 => (if t24111.toList = t24105.toList then ((lane_Out.f true (t24102 ++ t24103) (t24102 ++ t24103)).bind fun t24112 => ((plaitingref1_Clean.f k (t24102 ++ t24103)).bind fun t24113 => (if t24112.toList = t24113.toList then ((lane_Out.f false (t24102 ++ t24103) (t24102 ++ t24104)).bind fun t24114 => ((plaitingref1_Front.f t24105 t24114).bind fun t24115 => (some t24115))) else (some false)))) else (some false))) else (some false))) else (some false))) else (some false))) else (some false))) else (some false))) = some r := H
        have A11 := Aside0.mk A110
        clear A110
        replace H := Option.bind_eq_some_iff.mp H
        obtain ⟨t24106, A120, H⟩ := H
        replace H : (if t24106 = true then ((plaitingref1_Front.f t24105 (t24102 ++ t24104)).bind fun t24107 => (if t24107 = true then ((lane_Out.f true (t24102 ++ t24104) (t24102 ++ t24103)).bind fun t24108 => (if t24108.toList = t24105.toList then ((lane_Out.f true t24105 t24105).bind fun t24109 => (if t24109.toList = t24105.toList then ((lane_Out.f true t24105 (t24102 ++ t24103)).bind fun t24110 => (if t24110.toList = t24105.toList then ((lane_Out.f false t24105 (t24102 ++ t24104)).bind fun t24111 => (if t24111.toList = t24105.toList then ((lane_Out.f true (t24102 ++ t24103) (t24102 ++ t24103)).bind fun t24112 => ((plaitingref1_Clean.f k (t24102 ++ t24103)).bind fun t24113 => (if t24112.toList = t24113.toList then ((lane_Out.f false (t24102 ++ t24103) (t24102 ++ t24104)).bind fun t24114 => ((plaitingref1_Front.f t24105 t24114).bind fun t24115 => (some t24115))) else (some false)))) else (some false))) else (some false))) else (some false))) else (some false))) else (some false))) else (some false)) = some r := H
        have A12 := Aside0.mk A120
        clear A120
        by_cases c13 : t24106 = true
        · subst c13
          have H1 : ((plaitingref1_Front.f t24105 (t24102 ++ t24104)).bind fun t24107 => (if t24107 = true then ((lane_Out.f true (t24102 ++ t24104) (t24102 ++ t24103)).bind fun t24108 => (if t24108.toList = t24105.toList then ((lane_Out.f true t24105 t24105).bind fun t24109 => (if t24109.toList = t24105.toList then ((lane_Out.f true t24105 (t24102 ++ t24103)).bind fun t24110 => (if t24110.toList = t24105.toList then ((lane_Out.f false t24105 (t24102 ++ t24104)).bind fun t24111 => (if t24111.toList = t24105.toList then ((lane_Out.f true (t24102 ++ t24103) (t24102 ++ t24103)).bind fun t24112 => ((plaitingref1_Clean.f k (t24102 ++ t24103)).bind fun t24113 => (if t24112.toList = t24113.toList then ((lane_Out.f false (t24102 ++ t24103) (t24102 ++ t24104)).bind fun t24114 => ((plaitingref1_Front.f t24105 t24114).bind fun t24115 => (some t24115))) else (some false)))) else (some false))) else (some false))) else (some false))) else (some false))) else (some false))) = some r := by rw [if_pos rfl] at H; exact H
          clear H
          have H := H1
          clear H1
          replace H := Option.bind_eq_some_iff.mp H
          obtain ⟨t24107, A140, H⟩ := H
          replace H : (if t24107 = true then ((lane_Out.f true (t24102 ++ t24104) (t24102 ++ t24103)).bind fun t24108 => (if t24108.toList = t24105.toList then ((lane_Out.f true t24105 t24105).bind fun t24109 => (if t24109.toList = t24105.toList then ((lane_Out.f true t24105 (t24102 ++ t24103)).bind fun t24110 => (if t24110.toList = t24105.toList then ((lane_Out.f false t24105 (t24102 ++ t24104)).bind fun t24111 => (if t24111.toList = t24105.toList then ((lane_Out.f true (t24102 ++ t24103) (t24102 ++ t24103)).bind fun t24112 => ((plaitingref1_Clean.f k (t24102 ++ t24103)).bind fun t24113 => (if t24112.toList = t24113.toList then ((lane_Out.f false (t24102 ++ t24103) (t24102 ++ t24104)).bind fun t24114 => ((plaitingref1_Front.f t24105 t24114).bind fun t24115 => (some t24115))) else (some false)))) else (some false))) else (some false))) else (some false))) else (some false))) else (some false)) = some r := H
          have A14 := Aside0.mk A140
          clear A140
          by_cases c15 : t24107 = true
          · subst c15
            have H1 : ((lane_Out.f true (t24102 ++ t24104) (t24102 ++ t24103)).bind fun t24108 => (if t24108.toList = t24105.toList then ((lane_Out.f true t24105 t24105).bind fun t24109 => (if t24109.toList = t24105.toList then ((lane_Out.f true t24105 (t24102 ++ t24103)).bind fun t24110 => (if t24110.toList = t24105.toList then ((lane_Out.f false t24105 (t24102 ++ t24104)).bind fun t24111 => (if t24111.toList = t24105.toList then ((lane_Out.f true (t24102 ++ t24103) (t24102 ++ t24103)).bind fun t24112 => ((plaitingref1_Clean.f k (t24102 ++ t24103)).bind fun t24113 => (if t24112.toList = t24113.toList then ((lane_Out.f false (t24102 ++ t24103) (t24102 ++ t24104)).bind fun t24114 => ((plaitingref1_Front.f t24105 t24114).bind fun t24115 => (some t24115))) else (some false)))) else (some false))) else (some false))) else (some false))) else (some false))) = some r := by rw [if_pos rfl] at H; exact H
            clear H
            have H := H1
            clear H1
            replace H := Option.bind_eq_some_iff.mp H
            obtain ⟨t24108, A160, H⟩ := H
            replace H : (if t24108.toList = t24105.toList then ((lane_Out.f true t24105 t24105).bind fun t24109 => (if t24109.toList = t24105.toList then ((lane_Out.f true t24105 (t24102 ++ t24103)).bind fun t24110 => (if t24110.toList = t24105.toList then ((lane_Out.f false t24105 (t24102 ++ t24104)).bind fun t24111 => (if t24111.toList = t24105.toList then ((lane_Out.f true (t24102 ++ t24103) (t24102 ++ t24103)).bind fun t24112 => ((plaitingref1_Clean.f k (t24102 ++ t24103)).bind fun t24113 => (if t24112.toList = t24113.toList then ((lane_Out.f false (t24102 ++ t24103) (t24102 ++ t24104)).bind fun t24114 => ((plaitingref1_Front.f t24105 t24114).bind fun t24115 => (some t24115))) else (some false)))) else (some false))) else (some false))) else (some false))) else (some false)) = some r := H
            have A16 := Aside0.mk A160
            clear A160
            by_cases c17 : t24108.toList = t24105.toList
            · rw [if_pos c17] at H
              have c17b0 : (t24108.toList == t24105.toList) = true := beq_iff_eq.mpr c17
              have c17b1 : (t24108.toList != t24105.toList) = false := bne_eq_false_iff_eq.mpr c17
              clear c17
              replace H := Option.bind_eq_some_iff.mp H
              obtain ⟨t24109, A180, H⟩ := H
              replace H : (if t24109.toList = t24105.toList then ((lane_Out.f true t24105 (t24102 ++ t24103)).bind fun t24110 => (if t24110.toList = t24105.toList then ((lane_Out.f false t24105 (t24102 ++ t24104)).bind fun t24111 => (if t24111.toList = t24105.toList then ((lane_Out.f true (t24102 ++ t24103) (t24102 ++ t24103)).bind fun t24112 => ((plaitingref1_Clean.f k (t24102 ++ t24103)).bind fun t24113 => (if t24112.toList = t24113.toList then ((lane_Out.f false (t24102 ++ t24103) (t24102 ++ t24104)).bind fun t24114 => ((plaitingref1_Front.f t24105 t24114).bind fun t24115 => (some t24115))) else (some false)))) else (some false))) else (some false))) else (some false)) = some r := H
              have A18 := Aside0.mk A180
              clear A180
              by_cases c19 : t24109.toList = t24105.toList
              · rw [if_pos c19] at H
                have c19b0 : (t24109.toList == t24105.toList) = true := beq_iff_eq.mpr c19
                have c19b1 : (t24109.toList != t24105.toList) = false := bne_eq_false_iff_eq.mpr c19
                clear c19
                replace H := Option.bind_eq_some_iff.mp H
                obtain ⟨t24110, A200, H⟩ := H
                replace H : (if t24110.toList = t24105.toList then ((lane_Out.f false t24105 (t24102 ++ t24104)).bind fun t24111 => (if t24111.toList = t24105.toList then ((lane_Out.f true (t24102 ++ t24103) (t24102 ++ t24103)).bind fun t24112 => ((plaitingref1_Clean.f k (t24102 ++ t24103)).bind fun t24113 => (if t24112.toList = t24113.toList then ((lane_Out.f false (t24102 ++ t24103) (t24102 ++ t24104)).bind fun t24114 => ((plaitingref1_Front.f t24105 t24114).bind fun t24115 => (some t24115))) else (some false)))) else (some false))) else (some false)) = some r := H
                have A20 := Aside0.mk A200
                clear A200
                by_cases c21 : t24110.toList = t24105.toList
                · rw [if_pos c21] at H
                  have c21b0 : (t24110.toList == t24105.toList) = true := beq_iff_eq.mpr c21
                  have c21b1 : (t24110.toList != t24105.toList) = false := bne_eq_false_iff_eq.mpr c21
                  clear c21
                  replace H := Option.bind_eq_some_iff.mp H
                  obtain ⟨t24111, A220, H⟩ := H
                  replace H : (if t24111.toList = t24105.toList then ((lane_Out.f true (t24102 ++ t24103) (t24102 ++ t24103)).bind fun t24112 => ((plaitingref1_Clean.f k (t24102 ++ t24103)).bind fun t24113 => (if t24112.toList = t24113.toList then ((lane_Out.f false (t24102 ++ t24103) (t24102 ++ t24104)).bind fun t24114 => ((plaitingref1_Front.f t24105 t24114).bind fun t24115 => (some t24115))) else (some false)))) else (some false)) = some r := H
                  have A22 := Aside0.mk A220
                  clear A220
                  by_cases c23 : t24111.toList = t24105.toList
                  · rw [if_pos c23] at H
                    have c23b0 : (t24111.toList == t24105.toList) = true := beq_iff_eq.mpr c23
                    have c23b1 : (t24111.toList != t24105.toList) = false := bne_eq_false_iff_eq.mpr c23
                    clear c23
                    replace H := Option.bind_eq_some_iff.mp H
                    obtain ⟨t24112, A240, H⟩ := H
                    replace H : ((plaitingref1_Clean.f k (t24102 ++ t24103)).bind fun t24113 => (if t24112.toList = t24113.toList then ((lane_Out.f false (t24102 ++ t24103) (t24102 ++ t24104)).bind fun t24114 => ((plaitingref1_Front.f t24105 t24114).bind fun t24115 => (some t24115))) else (some false))) = some r := H
                    have A24 := Aside0.mk A240
                    clear A240
                    replace H := Option.bind_eq_some_iff.mp H
                    obtain ⟨t24113, A250, H⟩ := H
                    replace H : (if t24112.toList = t24113.toList then ((lane_Out.f false (t24102 ++ t24103) (t24102 ++ t24104)).bind fun t24114 => ((plaitingref1_Front.f t24105 t24114).bind fun t24115 => (some t24115))) else (some false)) = some r := H
                    have A25 := Aside0.mk A250
                    clear A250
                    by_cases c26 : t24112.toList = t24113.toList
                    · rw [if_pos c26] at H
                      have c26b0 : (t24112.toList == t24113.toList) = true := beq_iff_eq.mpr c26
                      have c26b1 : (t24112.toList != t24113.toList) = false := bne_eq_false_iff_eq.mpr c26
                      clear c26
                      replace H := Option.bind_eq_some_iff.mp H
                      obtain ⟨t24114, A270, H⟩ := H
                      replace H : ((plaitingref1_Front.f t24105 t24114).bind fun t24115 => (some t24115)) = some r := H
                      have A27 := Aside0.mk A270
                      clear A270
                      replace H := Option.bind_eq_some_iff.mp H
                      obtain ⟨t24115, A280, H⟩ := H
                      replace H : (some t24115) = some r := H
                      have A28 := Aside0.mk A280
                      clear A280
                      obtain rfl := Option.some.inj H
                      go_enter Try.func12, Try.ntmps12
                      go_wp2_with (first | ((with_reducible refine gate_callee (f := 39) rfl ?_); refine goesL_ (some 11) rfl rfl Try.func39 (by kernel_rfl) rfl #[] rfl (by (try simp only [List.map_toArray, List.map_cons, List.map_nil]); first | done | rfl | (simp only [List.length_drop, List.length_take]; rfl)) ?_; (with_reducible refine (plaitinglaw7_known.calls  true _ A4.out).mono ?_); rintro e w29 ⟨rfl, hb⟩; refine ⟨_, rfl, ?_⟩; have n0_ := Aside0.mk (below_step (by repeat (first | (with_reducible first | exact HB.out | apply below_alloc | apply pw_below_drewN | apply below_drew1) | exact HB.out)) hb); clear HB; have HB := n0_; clear n0_; (try clear hb); (try clear hb2); (try clear hk); (try clear hi)) | ((with_reducible refine gate_callee (f := 40) rfl ?_); refine goesL_ (some 14) rfl rfl Try.func40 (by kernel_rfl) rfl #[.slice A2 l2.length c2] rfl (by (try simp only [List.map_toArray, List.map_cons, List.map_nil]); first | done | rfl | (simp only [List.length_drop, List.length_take]; rfl)) ?_; (with_reducible refine (plaitinglaw1_Text.calls k _ _ l2 t24102 _ ?side1 ?side2 A6.out).mono ?_); (case side1 => repeat (first | exact (Kd.C_below HR2.out HB.out) | (with_reducible refine Kd.C_alloc ?_ _) | (with_reducible refine Kd.C_drewN ?_ _) | (with_reducible refine Kd.C_drew ?_))); (case side2 => exact HC2.out); rintro e w30 ⟨rfl, hb⟩; refine ⟨_, rfl, ?_⟩; have n0_ := Aside0.mk (below_step (by repeat (first | (with_reducible first | exact HB.out | apply below_alloc | apply pw_below_drewN | apply below_drew1) | exact HB.out)) hb); clear HB; have HB := n0_; clear n0_; (try clear hb); (try clear hb2); (try clear hk); (try clear hi)) | ((with_reducible refine gate_callee (f := 40) rfl ?_); refine goesL_ (some 17) rfl rfl Try.func40 (by kernel_rfl) rfl #[.slice A0 l0.length c0] rfl (by (try simp only [List.map_toArray, List.map_cons, List.map_nil]); first | done | rfl | (simp only [List.length_drop, List.length_take]; rfl)) ?_; (with_reducible refine (plaitinglaw1_Text.calls k _ _ l0 t24103 _ ?side1 ?side2 A7.out).mono ?_); (case side1 => repeat (first | exact (Kd.C_below HR0.out HB.out) | (with_reducible refine Kd.C_alloc ?_ _) | (with_reducible refine Kd.C_drewN ?_ _) | (with_reducible refine Kd.C_drew ?_))); (case side2 => exact HC0.out); rintro e w31 ⟨rfl, hb⟩; refine ⟨_, rfl, ?_⟩; have n0_ := Aside0.mk (below_step (by repeat (first | (with_reducible first | exact HB.out | apply below_alloc | apply pw_below_drewN | apply below_drew1) | exact HB.out)) hb); clear HB; have HB := n0_; clear n0_; (try clear hb); (try clear hb2); (try clear hk); (try clear hi)) | ((with_reducible refine gate_callee (f := 40) rfl ?_); refine goesL_ (some 21) rfl rfl Try.func40 (by kernel_rfl) rfl #[.slice A1 l1.length c1] rfl (by (try simp only [List.map_toArray, List.map_cons, List.map_nil]); first | done | rfl | (simp only [List.length_drop, List.length_take]; rfl)) ?_; (with_reducible refine (plaitinglaw1_Text.calls k _ _ l1 t24104 _ ?side1 ?side2 A9.out).mono ?_); (case side1 => repeat (first | exact (Kd.C_below HR1.out HB.out) | (with_reducible refine Kd.C_alloc ?_ _) | (with_reducible refine Kd.C_drewN ?_ _) | (with_reducible refine Kd.C_drew ?_))); (case side2 => exact HC1.out); rintro e w32 ⟨rfl, hb⟩; refine ⟨_, rfl, ?_⟩; have n0_ := Aside0.mk (below_step (by repeat (first | (with_reducible first | exact HB.out | apply below_alloc | apply pw_below_drewN | apply below_drew1) | exact HB.out)) hb); clear HB; have HB := n0_; clear n0_; (try clear hb); (try clear hb2); (try clear hk); (try clear hi)) | ((with_reducible refine gate_callee (f := 41) rfl ?_); refine goesL_ (some 25) rfl rfl Try.func41 (by kernel_rfl) rfl #[.bool true, .string (t24102 ++ t24103), .string (t24102 ++ t24104)] rfl (by (try simp only [List.map_toArray, List.map_cons, List.map_nil]); first | done | rfl | (simp only [List.length_drop, List.length_take]; rfl)) ?_; (with_reducible refine (lane_Out.calls true (t24102 ++ t24103) (t24102 ++ t24104) t24105 _ A11.out).mono ?_); rintro e w33 ⟨rfl, hb⟩; refine ⟨_, rfl, ?_⟩; have n0_ := Aside0.mk (below_step (by repeat (first | (with_reducible first | exact HB.out | apply below_alloc | apply pw_below_drewN | apply below_drew1) | exact HB.out)) hb); clear HB; have HB := n0_; clear n0_; (try clear hb); (try clear hb2); (try clear hk); (try clear hi)) | ((with_reducible refine gate_callee (f := 47) rfl ?_); refine goesL_ (some 28) rfl rfl Try.func47 (by kernel_rfl) rfl #[.string t24105, .string (t24102 ++ t24103)] rfl (by (try simp only [List.map_toArray, List.map_cons, List.map_nil]); first | done | rfl | (simp only [List.length_drop, List.length_take]; rfl)) ?_; (with_reducible refine (plaitingref1_Front.calls t24105 (t24102 ++ t24103) true _ A12.out).mono ?_); rintro e w' ⟨rfl, ⟨nd, rfl⟩⟩; refine ⟨_, rfl, ?_⟩) | (go_at_call 47; (with_reducible refine (plaitingref1_Front.calls t24105 (t24102 ++ t24104) true _ A14.out).mono ?_); rintro e w' ⟨rfl, ⟨nd, rfl⟩⟩) | (go_at_call 41; (with_reducible refine (lane_Out.calls true (t24102 ++ t24104) (t24102 ++ t24103) t24108 _ A16.out).mono ?_); rintro e w34 ⟨rfl, hb⟩; have n0_ := Aside0.mk (below_step (by repeat (first | (with_reducible first | exact HB.out | apply below_alloc | apply pw_below_drewN | apply below_drew1) | exact HB.out)) hb); clear HB; have HB := n0_; clear n0_; (try clear hb); (try clear hb2); (try clear hk); (try clear hi)) | (go_at_call 41; (with_reducible refine (lane_Out.calls true t24105 t24105 t24109 _ A18.out).mono ?_); rintro e w35 ⟨rfl, hb⟩; have n0_ := Aside0.mk (below_step (by repeat (first | (with_reducible first | exact HB.out | apply below_alloc | apply pw_below_drewN | apply below_drew1) | exact HB.out)) hb); clear HB; have HB := n0_; clear n0_; (try clear hb); (try clear hb2); (try clear hk); (try clear hi)) | (go_at_call 41; (with_reducible refine (lane_Out.calls true t24105 (t24102 ++ t24103) t24110 _ A20.out).mono ?_); rintro e w36 ⟨rfl, hb⟩; have n0_ := Aside0.mk (below_step (by repeat (first | (with_reducible first | exact HB.out | apply below_alloc | apply pw_below_drewN | apply below_drew1) | exact HB.out)) hb); clear HB; have HB := n0_; clear n0_; (try clear hb); (try clear hb2); (try clear hk); (try clear hi)) | (go_at_call 41; (with_reducible refine (lane_Out.calls false t24105 (t24102 ++ t24104) t24111 _ A22.out).mono ?_); rintro e w37 ⟨rfl, hb⟩; have n0_ := Aside0.mk (below_step (by repeat (first | (with_reducible first | exact HB.out | apply below_alloc | apply pw_below_drewN | apply below_drew1) | exact HB.out)) hb); clear HB; have HB := n0_; clear n0_; (try clear hb); (try clear hb2); (try clear hk); (try clear hi)) | (go_at_call 41; (with_reducible refine (lane_Out.calls true (t24102 ++ t24103) (t24102 ++ t24103) t24112 _ A24.out).mono ?_); rintro e w38 ⟨rfl, hb⟩; have n0_ := Aside0.mk (below_step (by repeat (first | (with_reducible first | exact HB.out | apply below_alloc | apply pw_below_drewN | apply below_drew1) | exact HB.out)) hb); clear HB; have HB := n0_; clear n0_; (try clear hb); (try clear hb2); (try clear hk); (try clear hi)) | (go_at_call 48; (with_reducible refine (plaitingref1_Clean.calls k (t24102 ++ t24103) t24113 _ A25.out).mono ?_); rintro e w' ⟨rfl, ⟨nd, rfl⟩⟩) | (go_at_call 41; (with_reducible refine (lane_Out.calls false (t24102 ++ t24103) (t24102 ++ t24104) t24114 _ A27.out).mono ?_); rintro e w39 ⟨rfl, hb⟩; have n0_ := Aside0.mk (below_step (by repeat (first | (with_reducible first | exact HB.out | apply below_alloc | apply pw_below_drewN | apply below_drew1) | exact HB.out)) hb); clear HB; have HB := n0_; clear n0_; (try clear hb); (try clear hb2); (try clear hk); (try clear hi)) | (go_at_call 47; (with_reducible refine (plaitingref1_Front.calls t24105 t24114 t24115 _ A28.out).mono ?_); rintro e w' ⟨rfl, ⟨nd, rfl⟩⟩))
                      go_ret
                      exact ⟨by first | rfl | (simp [errW_none, errW_some] <;> rfl) | (simp [*, errW_none, errW_some] <;> rfl), by repeat (first | (with_reducible first | exact HB.out | apply below_alloc | apply pw_below_drewN | apply below_drew1) | exact HB.out)⟩
                    · rw [if_neg c26] at H
                      have c26b0 : (t24112.toList == t24113.toList) = false := beq_eq_false_iff_ne.mpr c26
                      have c26b1 : (t24112.toList != t24113.toList) = true := bne_iff_ne.mpr c26
                      exact absurd ((Option.some.inj H).trans HRT.out) (by decide)
                  · rw [if_neg c23] at H
                    have c23b0 : (t24111.toList == t24105.toList) = false := beq_eq_false_iff_ne.mpr c23
                    have c23b1 : (t24111.toList != t24105.toList) = true := bne_iff_ne.mpr c23
                    exact absurd ((Option.some.inj H).trans HRT.out) (by decide)
                · rw [if_neg c21] at H
                  have c21b0 : (t24110.toList == t24105.toList) = false := beq_eq_false_iff_ne.mpr c21
                  have c21b1 : (t24110.toList != t24105.toList) = true := bne_iff_ne.mpr c21
                  exact absurd ((Option.some.inj H).trans HRT.out) (by decide)
              · rw [if_neg c19] at H
                have c19b0 : (t24109.toList == t24105.toList) = false := beq_eq_false_iff_ne.mpr c19
                have c19b1 : (t24109.toList != t24105.toList) = true := bne_iff_ne.mpr c19
                exact absurd ((Option.some.inj H).trans HRT.out) (by decide)
            · rw [if_neg c17] at H
              have c17b0 : (t24108.toList == t24105.toList) = false := beq_eq_false_iff_ne.mpr c17
              have c17b1 : (t24108.toList != t24105.toList) = true := bne_iff_ne.mpr c17
              exact absurd ((Option.some.inj H).trans HRT.out) (by decide)
          · replace c15 := Bool.eq_false_iff.mpr c15
            subst c15
            have H1 : (some false) = some r := by rw [if_neg (show ¬ (false = true) by decide)] at H; exact H
            clear H
            have H := H1
            clear H1
            exact absurd ((Option.some.inj H).trans HRT.out) (by decide)
        · replace c13 := Bool.eq_false_iff.mpr c13
          subst c13
          have H1 : (some false) = some r := by rw [if_neg (show ¬ (false = true) by decide)] at H; exact H
          clear H
          have H := H1
          clear H1
          exact absurd ((Option.some.inj H).trans HRT.out) (by decide)
      · rw [if_neg c10] at H
        exact absurd H (by simp)
    · rw [if_neg c8] at H
      exact absurd H (by simp)
  · replace c5 := Bool.eq_false_iff.mpr c5
    subst c5
    have H1 : (some false) = some r := by rw [if_neg (show ¬ (false = true) by decide)] at H; exact H
    clear H
    have H := H1
    clear H1
    exact absurd ((Option.some.inj H).trans HRT.out) (by decide)

/-- THE ONE PURE STATEMENT of plaitinglaw7_LaneFronts: yours. -/
def plaitinglaw7_LaneFronts.Pure : Prop := ∀ (l0 : List Int) (l1 : List Int) (l2 : List Int), l0.length ≤ maxLen → l0.length * 8 ≤ 140737488351232 → (∀ x ∈ l0, (Lit.int .i64 x).wf = true) → l1.length ≤ maxLen → l1.length * 8 ≤ 140737488351232 → (∀ x ∈ l1, (Lit.int .i64 x).wf = true) → l2.length ≤ maxLen → l2.length * 8 ≤ 140737488351232 → (∀ x ∈ l2, (Lit.int .i64 x).wf = true) → ∃ k, plaitinglaw7_LaneFronts.f k l0 l1 l2 = some true
theorem plaitinglaw7_LaneFronts.walk (P : plaitinglaw7_LaneFronts.Pure) (a0 : Option Addr) (len0 cap0 : Nat) (z0 : List Int) (a1 : Option Addr) (len1 cap1 : Nat) (z1 : List Int) (a2 : Option Addr) (len2 cap2 : Nat) (z2 : List Int) (w : World) (w0 : (a0 = none ∧ len0 = 0 ∧ cap0 = 0 ∧ z0 = []) ∨ ∃ x, a0 = some x ∧ len0 ≤ cap0 ∧ cap0 ≤ maxLen ∧ z0.length = cap0 ∧ (∀ i, i < z0.length → w.cell? (x.add i) = some (.int .i64 (z0.getD i 0))) ∧ ∀ n ∈ z0, (Lit.int .i64 n).wf = true) (y0 : len0 * 8 ≤ 140737488351232) (w1 : (a1 = none ∧ len1 = 0 ∧ cap1 = 0 ∧ z1 = []) ∨ ∃ x, a1 = some x ∧ len1 ≤ cap1 ∧ cap1 ≤ maxLen ∧ z1.length = cap1 ∧ (∀ i, i < z1.length → w.cell? (x.add i) = some (.int .i64 (z1.getD i 0))) ∧ ∀ n ∈ z1, (Lit.int .i64 n).wf = true) (y1 : len1 * 8 ≤ 140737488351232) (w2 : (a2 = none ∧ len2 = 0 ∧ cap2 = 0 ∧ z2 = []) ∨ ∃ x, a2 = some x ∧ len2 ≤ cap2 ∧ cap2 ≤ maxLen ∧ z2.length = cap2 ∧ (∀ i, i < z2.length → w.cell? (x.add i) = some (.int .i64 (z2.getD i 0))) ∧ ∀ n ∈ z2, (Lit.int .i64 n).wf = true) (y2 : len2 * 8 ≤ 140737488351232) :
    Calls Try.prog 12 #[.slice a0 len0 cap0, .slice a1 len1 cap1, .slice a2 len2 cap2] w fun e w' => e = .returned (.bool true) ∧ Below w.heap.size w w' := by
  obtain ⟨l0, rfl, hr0, hm0, hw0, hc0⟩ := ReadsInt.ofRowC w0
  obtain ⟨l1, rfl, hr1, hm1, hw1, hc1⟩ := ReadsInt.ofRowC w1
  obtain ⟨l2, rfl, hr2, hm2, hw2, hc2⟩ := ReadsInt.ofRowC w2
  obtain ⟨k, h⟩ := P l0 l1 l2 hm0 y0 hw0 hm1 y1 hw1 hm2 y2 hw2
  refine (plaitinglaw7_LaneFronts.calls k _ _ l0 _ _ l1 _ _ l2 true w (Kd.C_of_reads (d := (0 : Int)) (h1 := fun _ => rfl) hr0) hc0 (Kd.C_of_reads (d := (0 : Int)) (h1 := fun _ => rfl) hr1) hc1 (Kd.C_of_reads (d := (0 : Int)) (h1 := fun _ => rfl) hr2) hc2 rfl h).mono ?_
  rintro e w' ⟨rfl, hd⟩
  exact ⟨rfl, hd⟩

end Go.Proofs.Ytdkbalaphblobaa.P
