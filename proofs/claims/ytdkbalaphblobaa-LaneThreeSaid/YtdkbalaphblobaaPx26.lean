/- Printed by a program of this session (myprint) out of the translation: the functions as plain Lean functions, and that the calls compute them. What counts is Lean's check. -/
import Derived.Test.YtdkbalaphblobaaPx0
import Derived.Test.YtdkbalaphblobaaPx16
import Derived.Test.YtdkbalaphblobaaPx19
import Derived.Test.YtdkbalaphblobaaPx20
import Derived.Test.YtdkbalaphblobaaPx21
namespace Go.Proofs.Ytdkbalaphblobaa.P
open Go.RowKit Go.Proofs.YtdkbalaphblobaaW.PrintWords Go.Proofs.YtdkbalaphblobaaW.PrintLast Go.Proofs.YtdkbalaphblobaaW.PrintMore
attribute [local go_sem] max2_int min2_int max_two min_two max_three min_three max_four min_four   -- for this text's walks alone
set_option linter.unusedVariables false
set_option linter.unusedSimpArgs false

/-! ### plaitinglaw7_LaneThree: function 13 -/
def plaitinglaw7_LaneThree.f (k : Nat) (l0 : List Int) (l1 : List Int) (l2 : List Int) (l3 : List Int) : Option (Bool) := (plaitinglaw7_known.f).bind fun t26101 => (if t26101 = true then ((plaitinglaw1_Text.f k l3).bind fun t26102 => ((plaitinglaw1_Text.f k l0).bind fun t26103 => (if t26102.size + t26103.size ≤ 9223372036854775807 then ((plaitinglaw1_Text.f k l1).bind fun t26104 => (if t26102.size + t26104.size ≤ 9223372036854775807 then ((plaitinglaw1_Text.f k l2).bind fun t26105 => (if t26102.size + t26105.size ≤ 9223372036854775807 then ((lane_Out.f true (t26102 ++ t26103) (t26102 ++ t26104)).bind fun t26106 => ((lane_Out.f true t26106 (t26102 ++ t26105)).bind fun t26107 => ((lane_Out.f true (t26102 ++ t26104) (t26102 ++ t26105)).bind fun t26108 => ((lane_Out.f true (t26102 ++ t26103) t26108).bind fun t26109 => (if t26107.toList = t26109.toList then ((lane_Out.f true (t26102 ++ t26105) (t26102 ++ t26103)).bind fun t26110 => ((lane_Out.f true t26110 (t26102 ++ t26104)).bind fun t26111 => (if t26107.toList = t26111.toList then ((plaitingref1_Clean.f k (t26102 ++ t26103)).bind fun t26112 => ((plaitingref1_Clean.f k (t26102 ++ t26104)).bind fun t26113 => ((plaitingref1_Clean.f k (t26102 ++ t26105)).bind fun t26114 => ((plaitingref1_Common.f k t26113 t26114).bind fun t26115 => ((plaitingref1_Common.f k t26112 t26115).bind fun t26116 => (some (t26107.toList == t26116.toList))))))) else (some false)))) else (some false)))))) else (none))) else (none))) else (none)))) else (some false))
theorem plaitinglaw7_LaneThree.mono : ∀ a0 a1 a2 a3 k, LeO (plaitinglaw7_LaneThree.f k a0 a1 a2 a3) (plaitinglaw7_LaneThree.f (k + 1) a0 a1 a2 a3) := by
  intro a0 a1 a2 a3 k
  unfold plaitinglaw7_LaneThree.f
  repeat' first
      | (with_reducible exact plaitinglaw1_Text.mono _ _)
      | (with_reducible exact plaitingref1_Clean.mono _ _)
      | (with_reducible exact plaitingref1_Common.mono _ _ _)
      | (with_reducible exact LeO.refl _)
      | (with_reducible exact LeO.none _)
      | (with_reducible refine LeO.ite ?_ ?_)
      | (with_reducible refine LeO.bind ?_ (fun _ => ?_))
      | exact plaitinglaw1_Text.mono _ _
      | exact plaitingref1_Clean.mono _ _
      | exact plaitingref1_Common.mono _ _ _
      | exact LeO.none _
      | refine LeO.ite ?_ ?_
      | refine LeO.bind ?_ (fun _ => ?_)
set_option maxHeartbeats 8000000 in
set_option maxRecDepth 100000 in
theorem plaitinglaw7_LaneThree.calls (k : Nat) (A0 : Option Addr) (c0 : Nat) (l0 : List Int) (A1 : Option Addr) (c1 : Nat) (l1 : List Int) (A2 : Option Addr) (c2 : Nat) (l2 : List Int) (A3 : Option Addr) (c3 : Nat) (l3 : List Int) (r : Bool) (w : World) (hr0 : Kd.C (Kd.int .i64) w A0 l0.length l0) (hc0 : l0.length ≤ c0) (hr1 : Kd.C (Kd.int .i64) w A1 l1.length l1) (hc1 : l1.length ≤ c1) (hr2 : Kd.C (Kd.int .i64) w A2 l2.length l2) (hc2 : l2.length ≤ c2) (hr3 : Kd.C (Kd.int .i64) w A3 l3.length l3) (hc3 : l3.length ≤ c3) (hrt : r = true) (h : plaitinglaw7_LaneThree.f k l0 l1 l2 l3 = some r) :
    Calls Try.prog 13 #[.slice A0 l0.length c0, .slice A1 l1.length c1, .slice A2 l2.length c2, .slice A3 l3.length c3] w fun e w' => e = .returned (.bool r) ∧ Below w.heap.size w w' := by
  have HRT := Aside0.mk hrt
  clear hrt
  have HR0 := Aside0.mk hr0
  have HC0 := Aside0.mk hc0
  clear hr0 hc0
  have HR1 := Aside0.mk hr1
  have HC1 := Aside0.mk hc1
  clear hr1 hc1
  have HR2 := Aside0.mk hr2
  have HC2 := Aside0.mk hc2
  clear hr2 hc2
  have HR3 := Aside0.mk hr3
  have HC3 := Aside0.mk hc3
  clear hr3 hc3
  have HB := Aside0.mk (Below.refl w.heap.size w)
  have H : ((plaitinglaw7_known.f).bind fun t26101 => (if t26101 = true then ((plaitinglaw1_Text.f k l3).bind fun t26102 => ((plaitinglaw1_Text.f k l0).bind fun t26103 => (if t26102.size + t26103.size ≤ 9223372036854775807 then ((plaitinglaw1_Text.f k l1).bind fun t26104 => (if t26102.size + t26104.size ≤ 9223372036854775807 then ((plaitinglaw1_Text.f k l2).bind fun t26105 => (if t26102.size + t26105.size ≤ 9223372036854775807 then ((lane_Out.f true (t26102 ++ t26103) (t26102 ++ t26104)).bind fun t26106 => ((lane_Out.f true t26106 (t26102 ++ t26105)).bind fun t26107 => ((lane_Out.f true (t26102 ++ t26104) (t26102 ++ t26105)).bind fun t26108 => ((lane_Out.f true (t26102 ++ t26103) t26108).bind fun t26109 => (if t26107.toList = t26109.toList then ((lane_Out.f true (t26102 ++ t26105) (t26102 ++ t26103)).bind fun t26110 => ((lane_Out.f true t26110 (t26102 ++ t26104)).bind fun t26111 => (if t26107.toList = t26111.toList then ((plaitingref1_Clean.f k (t26102 ++ t26103)).bind fun t26112 => ((plaitingref1_Clean.f k (t26102 ++ t26104)).bind fun t26113 => ((plaitingref1_Clean.f k (t26102 ++ t26105)).bind fun t26114 => ((plaitingref1_Common.f k t26113 t26114).bind fun t26115 => ((plaitingref1_Common.f k t26112 t26115).bind fun t26116 => (some (t26107.toList == t26116.toList))))))) else (some false)))) else (some false)))))) else (none))) else (none))) else (none)))) else (some false))) = some r := h
  clear h
  replace H := Option.bind_eq_some_iff.mp H
  obtain ⟨t26101, A50, H⟩ := H
  replace H : (if t26101 = true then ((plaitinglaw1_Text.f k l3).bind fun t26102 => ((plaitinglaw1_Text.f k l0).bind fun t26103 => (if t26102.size + t26103.size ≤ 9223372036854775807 then ((plaitinglaw1_Text.f k l1).bind fun t26104 => (if t26102.size + t26104.size ≤ 9223372036854775807 then ((plaitinglaw1_Text.f k l2).bind fun t26105 => (if t26102.size + t26105.size ≤ 9223372036854775807 then ((lane_Out.f true (t26102 ++ t26103) (t26102 ++ t26104)).bind fun t26106 => ((lane_Out.f true t26106 (t26102 ++ t26105)).bind fun t26107 => ((lane_Out.f true (t26102 ++ t26104) (t26102 ++ t26105)).bind fun t26108 => ((lane_Out.f true (t26102 ++ t26103) t26108).bind fun t26109 => (if t26107.toList = t26109.toList then ((lane_Out.f true (t26102 ++ t26105) (t26102 ++ t26103)).bind fun t26110 => ((lane_Out.f true t26110 (t26102 ++ t26104)).bind fun t26111 => (if t26107.toList = t26111.toList then ((plaitingref1_Clean.f k (t26102 ++ t26103)).bind fun t26112 => ((plaitingref1_Clean.f k (t26102 ++ t26104)).bind fun t26113 => ((plaitingref1_Clean.f k (t26102 ++ t26105)).bind fun t26114 => ((plaitingref1_Common.f k t26113 t26114).bind fun t26115 => ((plaitingref1_Common.f k t26112 t26115).bind fun t26116 => (some (t26107.toList == t26116.toList))))))) else (some false)))) else (some false)))))) else (none))) else (none))) else (none)))) else (some false)) = some r := H
  have A5 := Aside0.mk A50
  clear A50
  by_cases c6 : t26101 = true
  · subst c6
    have H1 : ((plaitinglaw1_Text.f k l3).bind fun t26102 => ((plaitinglaw1_Text.f k l0).bind fun t26103 => (if t26102.size + t26103.size ≤ 9223372036854775807 then ((plaitinglaw1_Text.f k l1).bind fun t26104 => (if t26102.size + t26104.size ≤ 9223372036854775807 then ((plaitinglaw1_Text.f k l2).bind fun t26105 => (if t26102.size + t26105.size ≤ 9223372036854775807 then ((lane_Out.f true (t26102 ++ t26103) (t26102 ++ t26104)).bind fun t26106 => ((lane_Out.f true t26106 (t26102 ++ t26105)).bind fun t26107 => ((lane_Out.f true (t26102 ++ t26104) (t26102 ++ t26105)).bind fun t26108 => ((lane_Out.f true (t26102 ++ t26103) t26108).bind fun t26109 => (if t26107.toList = t26109.toList then ((lane_Out.f true (t26102 ++ t26105) (t26102 ++ t26103)).bind fun t26110 => ((lane_Out.f true t26110 (t26102 ++ t26104)).bind fun t26111 => (if t26107.toList = t26111.toList then ((plaitingref1_Clean.f k (t26102 ++ t26103)).bind fun t26112 => ((plaitingref1_Clean.f k (t26102 ++ t26104)).bind fun t26113 => ((plaitingref1_Clean.f k (t26102 ++ t26105)).bind fun t26114 => ((plaitingref1_Common.f k t26113 t26114).bind fun t26115 => ((plaitingref1_Common.f k t26112 t26115).bind fun t26116 => (some (t26107.toList == t26116.toList))))))) else (some false)))) else (some false)))))) else (none))) else (none))) else (none)))) = some r := by rw [if_pos rfl] at H; exact H
    clear H
    have H := H1
    clear H1
    replace H := Option.bind_eq_some_iff.mp H
    obtain ⟨t26102, A70, H⟩ := H
    replace H : ((plaitinglaw1_Text.f k l0).bind fun t26103 => (if t26102.size + t26103.size ≤ 9223372036854775807 then ((plaitinglaw1_Text.f k l1).bind fun t26104 => (if t26102.size + t26104.size ≤ 9223372036854775807 then ((plaitinglaw1_Text.f k l2).bind fun t26105 => (if t26102.size + t26105.size ≤ 9223372036854775807 then ((lane_Out.f true (t26102 ++ t26103) (t26102 ++ t26104)).bind fun t26106 => ((lane_Out.f true t26106 (t26102 ++ t26105)).bind fun t26107 => ((lane_Out.f true (t26102 ++ t26104) (t26102 ++ t26105)).bind fun t26108 => ((lane_Out.f true (t26102 ++ t26103) t26108).bind fun t26109 => (if t26107.toList = t26109.toList then ((lane_Out.f true (t26102 ++ t26105) (t26102 ++ t26103)).bind fun t26110 => ((lane_Out.f true t26110 (t26102 ++ t26104)).bind fun t26111 => (if t26107.toList = t26111.toList then ((plaitingref1_Clean.f k (t26102 ++ t26103)).bind fun t26112 => ((plaitingref1_Clean.f k (t26102 ++ t26104)).bind fun t26113 => ((plaitingref1_Clean.f k (t26102 ++ t26105)).bind fun t26114 => ((plaitingref1_Common.f k t26113 t26114).bind fun t26115 => ((plaitingref1_Common.f k t26112 t26115).bind fun t26116 => (some (t26107.toList == t26116.toList))))))) else (some false)))) else (some false)))))) else (none))) else (none))) else (none))) = some r := H
    have A7 := Aside0.mk A70
    clear A70
    replace H := Option.bind_eq_some_iff.mp H
    obtain ⟨t26103, A80, H⟩ := H
    replace H : (if t26102.size + t26103.size ≤ 9223372036854775807 then ((plaitinglaw1_Text.f k l1).bind fun t26104 => (if t26102.size + t26104.size ≤ 9223372036854775807 then ((plaitinglaw1_Text.f k l2).bind fun t26105 => (if t26102.size + t26105.size ≤ 9223372036854775807 then ((lane_Out.f true (t26102 ++ t26103) (t26102 ++ t26104)).bind fun t26106 => ((lane_Out.f true t26106 (t26102 ++ t26105)).bind fun t26107 => ((lane_Out.f true (t26102 ++ t26104) (t26102 ++ t26105)).bind fun t26108 => ((lane_Out.f true (t26102 ++ t26103) t26108).bind fun t26109 => (if t26107.toList = t26109.toList then ((lane_Out.f true (t26102 ++ t26105) (t26102 ++ t26103)).bind fun t26110 => ((lane_Out.f true t26110 (t26102 ++ t26104)).bind fun t26111 => (if t26107.toList = t26111.toList then ((plaitingref1_Clean.f k (t26102 ++ t26103)).bind fun t26112 => ((plaitingref1_Clean.f k (t26102 ++ t26104)).bind fun t26113 => ((plaitingref1_Clean.f k (t26102 ++ t26105)).bind fun t26114 => ((plaitingref1_Common.f k t26113 t26114).bind fun t26115 => ((plaitingref1_Common.f k t26112 t26115).bind fun t26116 => (some (t26107.toList == t26116.toList))))))) else (some false)))) else (some false)))))) else (none))) else (none))) else (none)) = some r := H
    have A8 := Aside0.mk A80
    clear A80
    by_cases c9 : t26102.size + t26103.size ≤ 9223372036854775807
    · rw [if_pos c9] at H
      have c9b0 := eq_true c9
      have c9b1 : decide (t26102.size + t26103.size ≤ 9223372036854775807) = true := decide_eq_true c9
      try have c9b2 : (9223372036854775807 < t26102.size + t26103.size) = False := eq_false (Nat.not_lt.2 c9)
      replace H := Option.bind_eq_some_iff.mp H
      obtain ⟨t26104, A100, H⟩ := H
      replace H : (if t26102.size + t26104.size ≤ 9223372036854775807 then ((plaitinglaw1_Text.f k l2).bind fun t26105 => (if t26102.size + t26105.size ≤ 9223372036854775807 then ((lane_Out.f true (t26102 ++ t26103) (t26102 ++ t26104)).bind fun t26106 => ((lane_Out.f true t26106 (t26102 ++ t26105)).bind fun t26107 => ((lane_Out.f true (t26102 ++ t26104) (t26102 ++ t26105)).bind fun t26108 => ((lane_Out.f true (t26102 ++ t26103) t26108).bind fun t26109 => (if t26107.toList = t26109.toList then ((lane_Out.f true (t26102 ++ t26105) (t26102 ++ t26103)).bind fun t26110 => ((lane_Out.f true t26110 (t26102 ++ t26104)).bind fun t26111 => (if t26107.toList = t26111.toList then ((plaitingref1_Clean.f k (t26102 ++ t26103)).bind fun t26112 => ((plaitingref1_Clean.f k (t26102 ++ t26104)).bind fun t26113 => ((plaitingref1_Clean.f k (t26102 ++ t26105)).bind fun t26114 => ((plaitingref1_Common.f k t26113 t26114).bind fun t26115 => ((plaitingref1_Common.f k t26112 t26115).bind fun t26116 => (some (t26107.toList == t26116.toList))))))) else (some false)))) else (some false)))))) else (none))) else (none)) = some r := H
      have A10 := Aside0.mk A100
      clear A100
      by_cases c11 : t26102.size + t26104.size ≤ 9223372036854775807
      · rw [if_pos c11] at H
        have c11b0 := eq_true c11
        have c11b1 : decide (t26102.size + t26104.size ≤ 9223372036854775807) = true := decide_eq_true c11
        try have c11b2 : (9223372036854775807 < t26102.size + t26104.size) = False := eq_false (Nat.not_lt.2 c11)
        replace H := Option.bind_eq_some_iff.mp H
        obtain ⟨t26105, A120, H⟩ := H
        replace H : (if t26102.size + t26105.size ≤ 9223372036854775807 then ((lane_Out.f true (t26102 ++ t26103) (t26102 ++ t26104)).bind fun t26106 => ((lane_Out.f true t26106 (t26102 ++ t26105)).bind fun t26107 => ((lane_Out.f true (t26102 ++ t26104) (t26102 ++ t26105)).bind fun t26108 => ((lane_Out.f true (t26102 ++ t26103) t26108).bind fun t26109 => (if t26107.toList = t26109.toList then ((lane_Out.f true (t26102 ++ t26105) (t26102 ++ t26103)).bind fun t26110 => ((lane_Out.f true t26110 (t26102 ++ t26104)).bind fun t26111 => (if t26107.toList = t26111.toList then ((plaitingref1_Clean.f k (t26102 ++ t26103)).bind fun t26112 => ((plaitingref1_Clean.f k (t26102 ++ t26104)).bind fun t26113 => ((plaitingref1_Clean.f k (t26102 ++ t26105)).bind fun t26114 => ((plaitingref1_Common.f k t26113 t26114).bind fun t26115 => ((plaitingref1_Common.f k t26112 t26115).bind fun t26116 => (some (t26107.toList == t26116.toList))))))) else (some false)))) else (some false)))))) else (none)) = some r := H
        have A12 := Aside0.mk A120
        clear A120
        by_cases c13 : t26102.size + t26105.size ≤ 9223372036854775807
        · rw [if_pos c13] at H
          have c13b0 := eq_true c13
          have c13b1 : decide (t26102.size + t26105.size ≤ 9223372036854775807) = true := decide_eq_true c13
          try have c13b2 : (9223372036854775807 < t26102.size + t26105.size) = False := eq_false (Nat.not_lt.2 c13)
          replace H := Option.bind_eq_some_iff.mp H
          obtain ⟨t26106, A140, H⟩ := H
          replace H : ((lane_Out.f true t26106 (t26102 ++ t26105)).bind fun t26107 => ((lane_Out.f true (t26102 ++ t26104) (t26102 ++ t26105)).bind fun t26108 => ((lane_Out.f true (t26102 ++ t26103) t26108).bind fun t26109 => (if t26107.toList = t26109.toList then ((lane_Out.f true (t26102 ++ t26105) (t26102 ++ t26103)).bind fun t26110 => ((lane_Out.f true t26110 (t26102 ++ t26104)).bind fun t26111 => (if t26107.toList = t26111.toList then ((plaitingref1_Clean.f k (t26102 ++ t26103)).bind fun t26112 => ((plaitingref1_Clean.f k (t26102 ++ t26104)).bind fun t26113 => ((plaitingref1_Clean.f k (t26102 ++ t26105)).bind fun t26114 => ((plaitingref1_Common.f k t26113 t26114).bind fun t26115 => ((plaitingref1_Common.f k t26112 t26115).bind fun t26116 => (some (t26107.toList == t26116.toList))))))) else (some false)))) else (some false))))) = some r := H
          have A14 := Aside0.mk A140
          clear A140
          replace H := Option.bind_eq_some_iff.mp H
          obtain ⟨t26107, A150, H⟩ := H
          replace H : ((lane_Out.f true (t26102 ++ t26104) (t26102 ++ t26105)).bind fun t26108 => ((lane_Out.f true (t26102 ++ t26103) t26108).bind fun t26109 => (if t26107.toList = t26109.toList then ((lane_Out.f true (t26102 ++ t26105) (t26102 ++ t26103)).bind fun t26110 => ((lane_Out.f true t26110 (t26102 ++ t26104)).bind fun t26111 => (if t26107.toList = t26111.toList then ((plaitingref1_Clean.f k (t26102 ++ t26103)).bind fun t26112 => ((plaitingref1_Clean.f k (t26102 ++ t26104)).bind fun t26113 => ((plaitingref1_Clean.f k (t26102 ++ t26105)).bind fun t26114 => ((plaitingref1_Common.f k t26113 t26114).bind fun t26115 => ((plaitingref1_Common.f k t26112 t26115).bind fun t26116 => (some (t26107.toList == t26116.toList))))))) else (some false)))) else (some false)))) = some r := H
          have A15 := Aside0.mk A150
          clear A150
          replace H := Option.bind_eq_some_iff.mp H
          obtain ⟨t26108, A160, H⟩ := H
          replace H : ((lane_Out.f true (t26102 ++ t26103) t26108).bind fun t26109 => (if t26107.toList = t26109.toList then ((lane_Out.f true (t26102 ++ t26105) (t26102 ++ t26103)).bind fun t26110 => ((lane_Out.f true t26110 (t26102 ++ t26104)).bind fun t26111 => (if t26107.toList = t26111.toList then ((plaitingref1_Clean.f k (t26102 ++ t26103)).bind fun t26112 => ((plaitingref1_Clean.f k (t26102 ++ t26104)).bind fun t26113 => ((plaitingref1_Clean.f k (t26102 ++ t26105)).bind fun t26114 => ((plaitingref1_Common.f k t26113 t26114).bind fun t26115 => ((plaitingref1_Common.f k t26112 t26115).bind fun t26116 => (some (t26107.toList == t26116.toList))))))) else (some false)))) else (some false))) = some r := H
          have A16 := Aside0.mk A160
          clear A160
          replace H := Option.bind_eq_some_iff.mp H
          obtain ⟨t26109, A170, H⟩ := H
          replace H : (if t26107.toList = t26109.toList then ((lane_Out.f true (t26102 ++ t26105) (t26102 ++ t26103)).bind fun t26110 => ((lane_Out.f true t26110 (t26102 ++ t26104)).bind fun t26111 => (if t26107.toList = t26111.toList then ((plaitingref1_Clean.f k (t26102 ++ t26103)).bind fun t26112 => ((plaitingref1_Clean.f k (t26102 ++ t26104)).bind fun t26113 => ((plaitingref1_Clean.f k (t26102 ++ t26105)).bind fun t26114 => ((plaitingref1_Common.f k t26113 t26114).bind fun t26115 => ((plaitingref1_Common.f k t26112 t26115).bind fun t26116 => (some (t26107.toList == t26116.toList))))))) else (some false)))) else (some false)) = some r := H
          have A17 := Aside0.mk A170
          clear A170
          by_cases c18 : t26107.toList = t26109.toList
          · rw [if_pos c18] at H
            have c18b0 : (t26107.toList == t26109.toList) = true := beq_iff_eq.mpr c18
            have c18b1 : (t26107.toList != t26109.toList) = false := bne_eq_false_iff_eq.mpr c18
            clear c18
            replace H := Option.bind_eq_some_iff.mp H
            obtain ⟨t26110, A190, H⟩ := H
            replace H : ((lane_Out.f true t26110 (t26102 ++ t26104)).bind fun t26111 => (if t26107.toList = t26111.toList then ((plaitingref1_Clean.f k (t26102 ++ t26103)).bind fun t26112 => ((plaitingref1_Clean.f k (t26102 ++ t26104)).bind fun t26113 => ((plaitingref1_Clean.f k (t26102 ++ t26105)).bind fun t26114 => ((plaitingref1_Common.f k t26113 t26114).bind fun t26115 => ((plaitingref1_Common.f k t26112 t26115).bind fun t26116 => (some (t26107.toList == t26116.toList))))))) else (some false))) = some r := H
            have A19 := Aside0.mk A190
            clear A190
            replace H := Option.bind_eq_some_iff.mp H
            obtain ⟨t26111, A200, H⟩ := H
            replace H : (if t26107.toList = t26111.toList then ((plaitingref1_Clean.f k (t26102 ++ t26103)).bind fun t26112 => ((plaitingref1_Clean.f k (t26102 ++ t26104)).bind fun t26113 => ((plaitingref1_Clean.f k (t26102 ++ t26105)).bind fun t26114 => ((plaitingref1_Common.f k t26113 t26114).bind fun t26115 => ((plaitingref1_Common.f k t26112 t26115).bind fun t26116 => (some (t26107.toList == t26116.toList))))))) else (some false)) = some r := H
            have A20 := Aside0.mk A200
            clear A200
            by_cases c21 : t26107.toList = t26111.toList
            · rw [if_pos c21] at H
              have c21b0 : (t26107.toList == t26111.toList) = true := beq_iff_eq.mpr c21
              have c21b1 : (t26107.toList != t26111.toList) = false := bne_eq_false_iff_eq.mpr c21
              clear c21
              replace H := Option.bind_eq_some_iff.mp H
              obtain ⟨t26112, A220, H⟩ := H
              replace H : ((plaitingref1_Clean.f k (t26102 ++ t26104)).bind fun t26113 => ((plaitingref1_Clean.f k (t26102 ++ t26105)).bind fun t26114 => ((plaitingref1_Common.f k t26113 t26114).bind fun t26115 => ((plaitingref1_Common.f k t26112 t26115).bind fun t26116 => (some (t26107.toList == t26116.toList)))))) = some r := H
              have A22 := Aside0.mk A220
              clear A220
              replace H := Option.bind_eq_some_iff.mp H
              obtain ⟨t26113, A230, H⟩ := H
              replace H : ((plaitingref1_Clean.f k (t26102 ++ t26105)).bind fun t26114 => ((plaitingref1_Common.f k t26113 t26114).bind fun t26115 => ((plaitingref1_Common.f k t26112 t26115).bind fun t26116 => (some (t26107.toList == t26116.toList))))) = some r := H
              have A23 := Aside0.mk A230
              clear A230
              replace H := Option.bind_eq_some_iff.mp H
              obtain ⟨t26114, A240, H⟩ := H
              replace H : ((plaitingref1_Common.f k t26113 t26114).bind fun t26115 => ((plaitingref1_Common.f k t26112 t26115).bind fun t26116 => (some (t26107.toList == t26116.toList)))) = some r := H
              have A24 := Aside0.mk A240
              clear A240
              replace H := Option.bind_eq_some_iff.mp H
              obtain ⟨t26115, A250, H⟩ := H
              replace H : ((plaitingref1_Common.f k t26112 t26115).bind fun t26116 => (some (t26107.toList == t26116.toList))) = some r := H
              have A25 := Aside0.mk A250
              clear A250
              replace H := Option.bind_eq_some_iff.mp H
              obtain ⟨t26116, A260, H⟩ := H
              replace H : (some (t26107.toList == t26116.toList)) = some r := H
              have A26 := Aside0.mk A260
              clear A260
              obtain rfl := Option.some.inj H
              go_enter Try.func13, Try.ntmps13
              go_wp2_with (first | ((with_reducible refine gate_callee (f := 39) rfl ?_); refine goesL_ (some 14) rfl rfl Try.func39 (by kernel_rfl) rfl #[] rfl (by (try simp only [List.map_toArray, List.map_cons, List.map_nil]); first | done | rfl | (simp only [List.length_drop, List.length_take]; rfl)) ?_; (with_reducible refine (plaitinglaw7_known.calls  true _ A5.out).mono ?_); rintro e w27 ⟨rfl, hb⟩; refine ⟨_, rfl, ?_⟩; have n0_ := Aside0.mk (below_step (by repeat (first | (with_reducible first | exact HB.out | apply below_alloc | apply pw_below_drewN | apply below_drew1) | exact HB.out)) hb); clear HB; have HB := n0_; clear n0_; (try clear hb); (try clear hb2); (try clear hk); (try clear hi)) | ((with_reducible refine gate_callee (f := 40) rfl ?_); refine goesL_ (some 17) rfl rfl Try.func40 (by kernel_rfl) rfl #[.slice A3 l3.length c3] rfl (by (try simp only [List.map_toArray, List.map_cons, List.map_nil]); first | done | rfl | (simp only [List.length_drop, List.length_take]; rfl)) ?_; (with_reducible refine (plaitinglaw1_Text.calls k _ _ l3 t26102 _ ?side1 ?side2 A7.out).mono ?_); (case side1 => repeat (first | exact (Kd.C_below HR3.out HB.out) | (with_reducible refine Kd.C_alloc ?_ _) | (with_reducible refine Kd.C_drewN ?_ _) | (with_reducible refine Kd.C_drew ?_))); (case side2 => exact HC3.out); rintro e w28 ⟨rfl, hb⟩; refine ⟨_, rfl, ?_⟩; have n0_ := Aside0.mk (below_step (by repeat (first | (with_reducible first | exact HB.out | apply below_alloc | apply pw_below_drewN | apply below_drew1) | exact HB.out)) hb); clear HB; have HB := n0_; clear n0_; (try clear hb); (try clear hb2); (try clear hk); (try clear hi)) | ((with_reducible refine gate_callee (f := 40) rfl ?_); refine goesL_ (some 20) rfl rfl Try.func40 (by kernel_rfl) rfl #[.slice A0 l0.length c0] rfl (by (try simp only [List.map_toArray, List.map_cons, List.map_nil]); first | done | rfl | (simp only [List.length_drop, List.length_take]; rfl)) ?_; (with_reducible refine (plaitinglaw1_Text.calls k _ _ l0 t26103 _ ?side1 ?side2 A8.out).mono ?_); (case side1 => repeat (first | exact (Kd.C_below HR0.out HB.out) | (with_reducible refine Kd.C_alloc ?_ _) | (with_reducible refine Kd.C_drewN ?_ _) | (with_reducible refine Kd.C_drew ?_))); (case side2 => exact HC0.out); rintro e w29 ⟨rfl, hb⟩; refine ⟨_, rfl, ?_⟩; have n0_ := Aside0.mk (below_step (by repeat (first | (with_reducible first | exact HB.out | apply below_alloc | apply pw_below_drewN | apply below_drew1) | exact HB.out)) hb); clear HB; have HB := n0_; clear n0_; (try clear hb); (try clear hb2); (try clear hk); (try clear hi)) | ((with_reducible refine gate_callee (f := 40) rfl ?_); refine goesL_ (some 24) rfl rfl Try.func40 (by kernel_rfl) rfl #[.slice A1 l1.length c1] rfl (by (try simp only [List.map_toArray, List.map_cons, List.map_nil]); first | done | rfl | (simp only [List.length_drop, List.length_take]; rfl)) ?_; (with_reducible refine (plaitinglaw1_Text.calls k _ _ l1 t26104 _ ?side1 ?side2 A10.out).mono ?_); (case side1 => repeat (first | exact (Kd.C_below HR1.out HB.out) | (with_reducible refine Kd.C_alloc ?_ _) | (with_reducible refine Kd.C_drewN ?_ _) | (with_reducible refine Kd.C_drew ?_))); (case side2 => exact HC1.out); rintro e w30 ⟨rfl, hb⟩; refine ⟨_, rfl, ?_⟩; have n0_ := Aside0.mk (below_step (by repeat (first | (with_reducible first | exact HB.out | apply below_alloc | apply pw_below_drewN | apply below_drew1) | exact HB.out)) hb); clear HB; have HB := n0_; clear n0_; (try clear hb); (try clear hb2); (try clear hk); (try clear hi)) | ((with_reducible refine gate_callee (f := 40) rfl ?_); refine goesL_ (some 28) rfl rfl Try.func40 (by kernel_rfl) rfl #[.slice A2 l2.length c2] rfl (by (try simp only [List.map_toArray, List.map_cons, List.map_nil]); first | done | rfl | (simp only [List.length_drop, List.length_take]; rfl)) ?_; (with_reducible refine (plaitinglaw1_Text.calls k _ _ l2 t26105 _ ?side1 ?side2 A12.out).mono ?_); (case side1 => repeat (first | exact (Kd.C_below HR2.out HB.out) | (with_reducible refine Kd.C_alloc ?_ _) | (with_reducible refine Kd.C_drewN ?_ _) | (with_reducible refine Kd.C_drew ?_))); (case side2 => exact HC2.out); rintro e w31 ⟨rfl, hb⟩; refine ⟨_, rfl, ?_⟩; have n0_ := Aside0.mk (below_step (by repeat (first | (with_reducible first | exact HB.out | apply below_alloc | apply pw_below_drewN | apply below_drew1) | exact HB.out)) hb); clear HB; have HB := n0_; clear n0_; (try clear hb); (try clear hb2); (try clear hk); (try clear hi)) | ((with_reducible refine gate_callee (f := 41) rfl ?_); refine goesL_ (some 32) rfl rfl Try.func41 (by kernel_rfl) rfl #[.bool true, .string (t26102 ++ t26103), .string (t26102 ++ t26104)] rfl (by (try simp only [List.map_toArray, List.map_cons, List.map_nil]); first | done | rfl | (simp only [List.length_drop, List.length_take]; rfl)) ?_; (with_reducible refine (lane_Out.calls true (t26102 ++ t26103) (t26102 ++ t26104) t26106 _ A14.out).mono ?_); rintro e w32 ⟨rfl, hb⟩; refine ⟨_, rfl, ?_⟩; have n0_ := Aside0.mk (below_step (by repeat (first | (with_reducible first | exact HB.out | apply below_alloc | apply pw_below_drewN | apply below_drew1) | exact HB.out)) hb); clear HB; have HB := n0_; clear n0_; (try clear hb); (try clear hb2); (try clear hk); (try clear hi)) | ((with_reducible refine gate_callee (f := 41) rfl ?_); refine goesL_ (some 34) rfl rfl Try.func41 (by kernel_rfl) rfl #[.bool true, .string t26106, .string (t26102 ++ t26105)] rfl (by (try simp only [List.map_toArray, List.map_cons, List.map_nil]); first | done | rfl | (simp only [List.length_drop, List.length_take]; rfl)) ?_; (with_reducible refine (lane_Out.calls true t26106 (t26102 ++ t26105) t26107 _ A15.out).mono ?_); rintro e w33 ⟨rfl, hb⟩; refine ⟨_, rfl, ?_⟩; have n0_ := Aside0.mk (below_step (by repeat (first | (with_reducible first | exact HB.out | apply below_alloc | apply pw_below_drewN | apply below_drew1) | exact HB.out)) hb); clear HB; have HB := n0_; clear n0_; (try clear hb); (try clear hb2); (try clear hk); (try clear hi)) | ((with_reducible refine gate_callee (f := 41) rfl ?_); refine goesL_ (some 39) rfl rfl Try.func41 (by kernel_rfl) rfl #[.bool true, .string (t26102 ++ t26104), .string (t26102 ++ t26105)] rfl (by (try simp only [List.map_toArray, List.map_cons, List.map_nil]); first | done | rfl | (simp only [List.length_drop, List.length_take]; rfl)) ?_; (with_reducible refine (lane_Out.calls true (t26102 ++ t26104) (t26102 ++ t26105) t26108 _ A16.out).mono ?_); rintro e w34 ⟨rfl, hb⟩; refine ⟨_, rfl, ?_⟩; have n0_ := Aside0.mk (below_step (by repeat (first | (with_reducible first | exact HB.out | apply below_alloc | apply pw_below_drewN | apply below_drew1) | exact HB.out)) hb); clear HB; have HB := n0_; clear n0_; (try clear hb); (try clear hb2); (try clear hk); (try clear hi)) | ((with_reducible refine gate_callee (f := 41) rfl ?_); refine goesL_ (some 40) rfl rfl Try.func41 (by kernel_rfl) rfl #[.bool true, .string (t26102 ++ t26103), .string t26108] rfl (by (try simp only [List.map_toArray, List.map_cons, List.map_nil]); first | done | rfl | (simp only [List.length_drop, List.length_take]; rfl)) ?_; (with_reducible refine (lane_Out.calls true (t26102 ++ t26103) t26108 t26109 _ A17.out).mono ?_); rintro e w35 ⟨rfl, hb⟩; refine ⟨_, rfl, ?_⟩; have n0_ := Aside0.mk (below_step (by repeat (first | (with_reducible first | exact HB.out | apply below_alloc | apply pw_below_drewN | apply below_drew1) | exact HB.out)) hb); clear HB; have HB := n0_; clear n0_; (try clear hb); (try clear hb2); (try clear hk); (try clear hi)) | (go_at_call 41; (with_reducible refine (lane_Out.calls true (t26102 ++ t26105) (t26102 ++ t26103) t26110 _ A19.out).mono ?_); rintro e w36 ⟨rfl, hb⟩; have n0_ := Aside0.mk (below_step (by repeat (first | (with_reducible first | exact HB.out | apply below_alloc | apply pw_below_drewN | apply below_drew1) | exact HB.out)) hb); clear HB; have HB := n0_; clear n0_; (try clear hb); (try clear hb2); (try clear hk); (try clear hi)) | (go_at_call 41; (with_reducible refine (lane_Out.calls true t26110 (t26102 ++ t26104) t26111 _ A20.out).mono ?_); rintro e w37 ⟨rfl, hb⟩; have n0_ := Aside0.mk (below_step (by repeat (first | (with_reducible first | exact HB.out | apply below_alloc | apply pw_below_drewN | apply below_drew1) | exact HB.out)) hb); clear HB; have HB := n0_; clear n0_; (try clear hb); (try clear hb2); (try clear hk); (try clear hi)) | (go_at_call 48; (with_reducible refine (plaitingref1_Clean.calls k (t26102 ++ t26103) t26112 _ A22.out).mono ?_); rintro e w' ⟨rfl, ⟨nd, rfl⟩⟩) | (go_at_call 48; (with_reducible refine (plaitingref1_Clean.calls k (t26102 ++ t26104) t26113 _ A23.out).mono ?_); rintro e w' ⟨rfl, ⟨nd, rfl⟩⟩) | (go_at_call 48; (with_reducible refine (plaitingref1_Clean.calls k (t26102 ++ t26105) t26114 _ A24.out).mono ?_); rintro e w' ⟨rfl, ⟨nd, rfl⟩⟩) | (go_at_call 49; (with_reducible refine (plaitingref1_Common.calls k t26113 t26114 t26115 _ A25.out).mono ?_); rintro e w' ⟨rfl, ⟨nd, rfl⟩⟩) | (go_at_call 49; (with_reducible refine (plaitingref1_Common.calls k t26112 t26115 t26116 _ A26.out).mono ?_); rintro e w' ⟨rfl, ⟨nd, rfl⟩⟩))
              go_ret
              exact ⟨by first | rfl | (simp [errW_none, errW_some] <;> rfl) | (simp [*, errW_none, errW_some] <;> rfl), by repeat (first | (with_reducible first | exact HB.out | apply below_alloc | apply pw_below_drewN | apply below_drew1) | exact HB.out)⟩
            · rw [if_neg c21] at H
              have c21b0 : (t26107.toList == t26111.toList) = false := beq_eq_false_iff_ne.mpr c21
              have c21b1 : (t26107.toList != t26111.toList) = true := bne_iff_ne.mpr c21
              exact absurd ((Option.some.inj H).trans HRT.out) (by decide)
          · rw [if_neg c18] at H
            have c18b0 : (t26107.toList == t26109.toList) = false := beq_eq_false_iff_ne.mpr c18
            have c18b1 : (t26107.toList != t26109.toList) = true := bne_iff_ne.mpr c18
            exact absurd ((Option.some.inj H).trans HRT.out) (by decide)
        · rw [if_neg c13] at H
          exact absurd H (by simp)
      · rw [if_neg c11] at H
        exact absurd H (by simp)
    · rw [if_neg c9] at H
      exact absurd H (by simp)
  · replace c6 := Bool.eq_false_iff.mpr c6
    subst c6
    have H1 : (some false) = some r := by rw [if_neg (show ¬ (false = true) by decide)] at H; exact H
    clear H
    have H := H1
    clear H1
    exact absurd ((Option.some.inj H).trans HRT.out) (by decide)

/-- THE ONE PURE STATEMENT of plaitinglaw7_LaneThree: yours. -/
def plaitinglaw7_LaneThree.Pure : Prop := ∀ (l0 : List Int) (l1 : List Int) (l2 : List Int) (l3 : List Int), l0.length ≤ maxLen → l0.length * 8 ≤ 140737488351232 → (∀ x ∈ l0, (Lit.int .i64 x).wf = true) → l1.length ≤ maxLen → l1.length * 8 ≤ 140737488351232 → (∀ x ∈ l1, (Lit.int .i64 x).wf = true) → l2.length ≤ maxLen → l2.length * 8 ≤ 140737488351232 → (∀ x ∈ l2, (Lit.int .i64 x).wf = true) → l3.length ≤ maxLen → l3.length * 8 ≤ 140737488351232 → (∀ x ∈ l3, (Lit.int .i64 x).wf = true) → ∃ k, plaitinglaw7_LaneThree.f k l0 l1 l2 l3 = some true
theorem plaitinglaw7_LaneThree.walk (P : plaitinglaw7_LaneThree.Pure) (a0 : Option Addr) (len0 cap0 : Nat) (z0 : List Int) (a1 : Option Addr) (len1 cap1 : Nat) (z1 : List Int) (a2 : Option Addr) (len2 cap2 : Nat) (z2 : List Int) (a3 : Option Addr) (len3 cap3 : Nat) (z3 : List Int) (w : World) (w0 : (a0 = none ∧ len0 = 0 ∧ cap0 = 0 ∧ z0 = []) ∨ ∃ x, a0 = some x ∧ len0 ≤ cap0 ∧ cap0 ≤ maxLen ∧ z0.length = cap0 ∧ (∀ i, i < z0.length → w.cell? (x.add i) = some (.int .i64 (z0.getD i 0))) ∧ ∀ n ∈ z0, (Lit.int .i64 n).wf = true) (y0 : len0 * 8 ≤ 140737488351232) (w1 : (a1 = none ∧ len1 = 0 ∧ cap1 = 0 ∧ z1 = []) ∨ ∃ x, a1 = some x ∧ len1 ≤ cap1 ∧ cap1 ≤ maxLen ∧ z1.length = cap1 ∧ (∀ i, i < z1.length → w.cell? (x.add i) = some (.int .i64 (z1.getD i 0))) ∧ ∀ n ∈ z1, (Lit.int .i64 n).wf = true) (y1 : len1 * 8 ≤ 140737488351232) (w2 : (a2 = none ∧ len2 = 0 ∧ cap2 = 0 ∧ z2 = []) ∨ ∃ x, a2 = some x ∧ len2 ≤ cap2 ∧ cap2 ≤ maxLen ∧ z2.length = cap2 ∧ (∀ i, i < z2.length → w.cell? (x.add i) = some (.int .i64 (z2.getD i 0))) ∧ ∀ n ∈ z2, (Lit.int .i64 n).wf = true) (y2 : len2 * 8 ≤ 140737488351232) (w3 : (a3 = none ∧ len3 = 0 ∧ cap3 = 0 ∧ z3 = []) ∨ ∃ x, a3 = some x ∧ len3 ≤ cap3 ∧ cap3 ≤ maxLen ∧ z3.length = cap3 ∧ (∀ i, i < z3.length → w.cell? (x.add i) = some (.int .i64 (z3.getD i 0))) ∧ ∀ n ∈ z3, (Lit.int .i64 n).wf = true) (y3 : len3 * 8 ≤ 140737488351232) :
    Calls Try.prog 13 #[.slice a0 len0 cap0, .slice a1 len1 cap1, .slice a2 len2 cap2, .slice a3 len3 cap3] w fun e w' => e = .returned (.bool true) ∧ Below w.heap.size w w' := by
  obtain ⟨l0, rfl, hr0, hm0, hw0, hc0⟩ := ReadsInt.ofRowC w0
  obtain ⟨l1, rfl, hr1, hm1, hw1, hc1⟩ := ReadsInt.ofRowC w1
  obtain ⟨l2, rfl, hr2, hm2, hw2, hc2⟩ := ReadsInt.ofRowC w2
  obtain ⟨l3, rfl, hr3, hm3, hw3, hc3⟩ := ReadsInt.ofRowC w3
  obtain ⟨k, h⟩ := P l0 l1 l2 l3 hm0 y0 hw0 hm1 y1 hw1 hm2 y2 hw2 hm3 y3 hw3
  refine (plaitinglaw7_LaneThree.calls k _ _ l0 _ _ l1 _ _ l2 _ _ l3 true w (Kd.C_of_reads (d := (0 : Int)) (h1 := fun _ => rfl) hr0) hc0 (Kd.C_of_reads (d := (0 : Int)) (h1 := fun _ => rfl) hr1) hc1 (Kd.C_of_reads (d := (0 : Int)) (h1 := fun _ => rfl) hr2) hc2 (Kd.C_of_reads (d := (0 : Int)) (h1 := fun _ => rfl) hr3) hc3 rfl h).mono ?_
  rintro e w' ⟨rfl, hd⟩
  exact ⟨rfl, hd⟩

end Go.Proofs.Ytdkbalaphblobaa.P
