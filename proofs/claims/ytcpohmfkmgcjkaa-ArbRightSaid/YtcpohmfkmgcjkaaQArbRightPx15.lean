/- Printed by a program of this session (myprint) out of the translation: the functions as plain Lean functions, and that the calls compute them. What counts is Lean's check. -/
import Derived.Test.YtcpohmfkmgcjkaaQArbRightPx0
import Derived.Test.YtcpohmfkmgcjkaaQArbRightShort
namespace Go.Proofs.Ytcpohmfkmgcjkaa.P
open Go.RowKit Go.Proofs.YtcpohmfkmgcjkaaW.PrintWords Go.Proofs.YtcpohmfkmgcjkaaW.PrintLast Go.Proofs.YtcpohmfkmgcjkaaW.PrintMore
attribute [local go_sem] max2_int min2_int max_two min_two max_three min_three max_four min_four
set_option linter.unusedVariables false
set_option linter.unusedSimpArgs false
attribute [-simp] ByteArray.size_extract ByteArray.size_append ByteArray.extract_append_extract
attribute [-go_sem] ByteArray.size_append'
def plaitingref1_symbol.f (a0 : Int) : Option (Bool) := if a0 = 48 then (some true) else (if a0 = 49 then (some true) else (some (a0 == 35)))
set_option maxHeartbeats 8000000 in
set_option maxRecDepth 100000 in
theorem plaitingref1_symbol.calls (a0 : Int) (r : Bool) (w : World) (h : plaitingref1_symbol.f a0 = some r) :
  Calls Try.prog 80 #[.int .u8 a0] w fun e w' => e = .returned (.bool r) ∧ Drawn0 w w' := by
 have H : (if a0 = 48 then (some true) else (if a0 = 49 then (some true) else (some (a0 == 35)))) = some r := h
 clear h
 by_cases c2 : a0 = 48
 ·
  rw [if_pos c2] at H
  have c2b0 : (a0 == 48) = true := beq_iff_eq.mpr c2
  have c2b1 : (a0 != 48) = false := bne_eq_false_iff_eq.mpr c2
  clear c2
  obtain rfl := Option.some.inj H
  go_enter Try.func80, Try.ntmps80
  go_wp2
  go_ret
  exact ⟨by first | rfl | (simp; done) | (simp [*]; done), by repeat (first | exact Drawn0.refl _ | apply Drawn0.step)⟩
 ·
  rw [if_neg c2] at H
  have c2b0 : (a0 == 48) = false := beq_eq_false_iff_ne.mpr c2
  have c2b1 : (a0 != 48) = true := bne_iff_ne.mpr c2
  by_cases c3 : a0 = 49
  ·
   rw [if_pos c3] at H
   have c3b0 : (a0 == 49) = true := beq_iff_eq.mpr c3
   have c3b1 : (a0 != 49) = false := bne_eq_false_iff_eq.mpr c3
   clear c3
   obtain rfl := Option.some.inj H
   go_enter Try.func80, Try.ntmps80
   go_wp2
   go_ret
   exact ⟨by first | rfl | (simp; done) | (simp [*]; done), by repeat (first | exact Drawn0.refl _ | apply Drawn0.step)⟩
  ·
   rw [if_neg c3] at H
   have c3b0 : (a0 == 49) = false := beq_eq_false_iff_ne.mpr c3
   have c3b1 : (a0 != 49) = true := bne_iff_ne.mpr c3
   obtain rfl := Option.some.inj H
   go_enter Try.func80, Try.ntmps80
   go_wp2
   go_ret
   exact ⟨by first | rfl | (simp; done) | (simp [*]; done), by repeat (first | exact Drawn0.refl _ | apply Drawn0.step)⟩
def plaitingref1_Clean.l0 : Nat → ByteArray → Int → Option (ByteArray)
 | 0, _, _ => none
 | k + 1, x0, x3 => if x3 < (x0.size : Int) then (if 0 ≤ x3 then ((plaitingref1_symbol.f (bt x0 x3)).bind fun tAb => (if tAb = true then (if (bt x0 x3) = 35 then (if 0 ≤ (wrap64 (x3 + 1)) then (if (wrap64 (x3 + 1)) ≤ (x0.size : Int) then (some (x0.extract 0 ((wrap64 (x3 + 1)) : Int).toNat)) else (none)) else (none)) else (plaitingref1_Clean.l0 k x0 (wrap64 (x3 + 1)))) else (if x3 ≤ (x0.size : Int) then (some (x0.extract 0 (x3 : Int).toNat)) else (none)))) else (none)) else (some x0)
def plaitingref1_Clean.f (k : Nat) (a0 : ByteArray) : Option (ByteArray) := plaitingref1_Clean.l0 k a0 0
set_option maxHeartbeats 8000000 in
set_option maxRecDepth 100000 in
theorem plaitingref1_Clean.calls (k : Nat) (a0 : ByteArray) (r : ByteArray) (w : World) (h : plaitingref1_Clean.f k a0 = some r) :
  Calls Try.prog 60 #[.string a0] w fun e w' => e = .returned (.string r) ∧ Drawn0 w w' := by
 have H : (plaitingref1_Clean.l0 k a0 0) = some r := h
 clear h
 have H' := Aside0.mk H
 clear H
 go_enter Try.func60, Try.ntmps60
 go_wp2
 go_loopg [3] k (fun kq v3 w' => ∃ (x3_1 : Int), v3 = .int .i64 x3_1 ∧ Aside0 (plaitingref1_Clean.l0 kq a0 x3_1 = some r) ∧ Aside0 (kq ≤ k) ∧ Drawn0 w w')
 case atStart => exact ⟨(0), (by first | rfl | (simp; done) | (simp [*]; done)), H', ⟨Nat.le_refl _⟩, by repeat (first | exact Drawn0.refl _ | apply Drawn0.step)⟩
 case round =>
  clear H'
  obtain ⟨x3_1, rfl, HA, HK1, ⟨m1, rfl⟩⟩ := hrel
  cases gk with
  | zero => exact absurd HA.out (by simp [plaitingref1_Clean.l0])
  | succ k1 =>
   have H := HA.out
   clear HA
   simp only [plaitingref1_Clean.l0] at H
   by_cases c2 : x3_1 < (a0.size : Int)
   ·
    rw [if_pos c2] at H
    have c2b0 : decide (x3_1 < (a0.size : Int)) = true := decide_eq_true c2
    clear c2
    by_cases c3 : 0 ≤ x3_1
    ·
     rw [if_pos c3] at H
     have c3b0 : decide (0 ≤ x3_1) = true := decide_eq_true c3
     clear c3
     replace H := Option.bind_eq_some_iff.mp H
     obtain ⟨tAb, A50, H⟩ := H
     try dsimp only at H
     have A5 := Aside0.mk A50
     clear A50
     by_cases c6 : tAb = true
     ·
      subst c6
      have H1 : (if (bt a0 x3_1) = 35 then (if 0 ≤ (wrap64 (x3_1 + 1)) then (if (wrap64 (x3_1 + 1)) ≤ (a0.size : Int) then (some (a0.extract 0 ((wrap64 (x3_1 + 1)) : Int).toNat)) else (none)) else (none)) else (plaitingref1_Clean.l0 k1 a0 (wrap64 (x3_1 + 1)))) = some r := by rw [if_pos rfl] at H; exact H
      clear H
      have H := H1
      clear H1
      by_cases c8 : (bt a0 x3_1) = 35
      ·
       rw [if_pos c8] at H
       have c8b0 : ((bt a0 x3_1) == 35) = true := beq_iff_eq.mpr c8
       have c8b1 : ((bt a0 x3_1) != 35) = false := bne_eq_false_iff_eq.mpr c8
       clear c8
       obtain ⟨ji9, hji9⟩ : ∃ j_ : Int, (wrap64 (x3_1 + 1)) = j_ := ⟨_, rfl⟩
       replace H : (if 0 ≤ (ji9) then (if (ji9) ≤ (a0.size : Int) then (some (a0.extract 0 ((ji9) : Int).toNat)) else (none)) else (none)) = some r := by first | (rw [hji9] at H; exact H) | (simp only [hji9] at H ⊢; exact H)
       (try rw [hji9] at A5)
       have hji9w : (IntKind.i64.wrap (x3_1 + 1)) = ji9 := (i64_w _).trans hji9
       by_cases c10 : 0 ≤ (ji9)
       ·
        rw [if_pos c10] at H
        have c10b0 := eq_true c10
        have c10b1 : decide (0 ≤ (ji9)) = true := decide_eq_true c10
        clear c10
        by_cases c11 : (ji9) ≤ (a0.size : Int)
        ·
         rw [if_pos c11] at H
         have c11b0 := eq_true c11
         have c11b1 : decide ((ji9) ≤ (a0.size : Int)) = true := decide_eq_true c11
         clear c11
         obtain rfl := Option.some.inj H
         have p4 : 0 ≤ (x3_1 : Int) := of_decide_eq_true (by first | (with_reducible assumption) | assumption)
         have q4 : x3_1 < (a0.size : Int) := of_decide_eq_true (by first | (with_reducible assumption) | assumption)
         have hx4 := bt_at a0 x3_1
         replace p4 := eq_true p4
         replace q4 := eq_true q4
         go_wp2_with (first | ((with_reducible refine gate_callee (f := 80) rfl ?_); refine gL_ 13 Try.func80 #[.int .u8 (bt a0 x3_1)] ?_; (with_reducible refine (plaitingref1_symbol.calls (bt a0 x3_1) true _ A5.out).mono ?_); rintro e w' ⟨rfl, ⟨nd, rfl⟩⟩; refine ⟨_, rfl, ?_⟩; have p7 : 0 ≤ (x3_1 : Int) := of_decide_eq_true (by first | (with_reducible assumption) | assumption); have q7 : x3_1 < (a0.size : Int) := of_decide_eq_true (by first | (with_reducible assumption) | assumption); have hx7 := bt_at a0 x3_1; replace p7 := eq_true p7; replace q7 := eq_true q7))
         go_ret
         exact ⟨by first | rfl | (simp; done) | (simp only [← hji9] <;> (first | rfl | simp)) | (simp [*]; done), by repeat (first | exact Drawn0.refl _ | apply Drawn0.step)⟩
        ·
         rw [if_neg c11] at H
         exact absurd H (by simp)
       ·
        rw [if_neg c10] at H
        exact absurd H (by simp)
      ·
       rw [if_neg c8] at H
       have c8b0 : ((bt a0 x3_1) == 35) = false := beq_eq_false_iff_ne.mpr c8
       have c8b1 : ((bt a0 x3_1) != 35) = true := bne_iff_ne.mpr c8
       have H' := Aside0.mk H
       clear H
       have p4 : 0 ≤ (x3_1 : Int) := of_decide_eq_true (by first | (with_reducible assumption) | assumption)
       have q4 : x3_1 < (a0.size : Int) := of_decide_eq_true (by first | (with_reducible assumption) | assumption)
       have hx4 := bt_at a0 x3_1
       replace p4 := eq_true p4
       replace q4 := eq_true q4
       go_wp2_with (first | ((with_reducible refine gate_callee (f := 80) rfl ?_); refine gL_ 13 Try.func80 #[.int .u8 (bt a0 x3_1)] ?_; (with_reducible refine (plaitingref1_symbol.calls (bt a0 x3_1) true _ A5.out).mono ?_); rintro e w' ⟨rfl, ⟨nd, rfl⟩⟩; refine ⟨_, rfl, ?_⟩; have p7 : 0 ≤ (x3_1 : Int) := of_decide_eq_true (by first | (with_reducible assumption) | assumption); have q7 : x3_1 < (a0.size : Int) := of_decide_eq_true (by first | (with_reducible assumption) | assumption); have hx7 := bt_at a0 x3_1; replace p7 := eq_true p7; replace q7 := eq_true q7))
       go_roundg k1
       case measure => have := HK1.out; omega
       case rel => exact ⟨(wrap64 (x3_1 + 1)), (by first | rfl | (simp; done) | (simp [*]; done)), H', ⟨by have := HK1.out; omega⟩, by repeat (first | exact Drawn0.refl _ | apply Drawn0.step)⟩
     ·
      replace c6 := Bool.eq_false_iff.mpr c6
      subst c6
      have H1 : (if x3_1 ≤ (a0.size : Int) then (some (a0.extract 0 (x3_1 : Int).toNat)) else (none)) = some r := by rw [if_neg (show ¬ (false = true) by decide)] at H; exact H
      clear H
      have H := H1
      clear H1
      have c12b0 := eq_true (of_decide_eq_true (by first | (with_reducible assumption) | assumption) : 0 ≤ x3_1)
      by_cases c13 : x3_1 ≤ (a0.size : Int)
      ·
       rw [if_pos c13] at H
       have c13b0 := eq_true c13
       have c13b1 : decide (x3_1 ≤ (a0.size : Int)) = true := decide_eq_true c13
       clear c13
       obtain rfl := Option.some.inj H
       have p4 : 0 ≤ (x3_1 : Int) := of_decide_eq_true (by first | (with_reducible assumption) | assumption)
       have q4 : x3_1 < (a0.size : Int) := of_decide_eq_true (by first | (with_reducible assumption) | assumption)
       have hx4 := bt_at a0 x3_1
       replace p4 := eq_true p4
       replace q4 := eq_true q4
       go_wp2_with (first | ((with_reducible refine gate_callee (f := 80) rfl ?_); refine gL_ 13 Try.func80 #[.int .u8 (bt a0 x3_1)] ?_; (with_reducible refine (plaitingref1_symbol.calls (bt a0 x3_1) false _ A5.out).mono ?_); rintro e w' ⟨rfl, ⟨nd, rfl⟩⟩; refine ⟨_, rfl, ?_⟩))
       go_ret
       exact ⟨by first | rfl | (simp; done) | (simp [*]; done), by repeat (first | exact Drawn0.refl _ | apply Drawn0.step)⟩
      ·
       rw [if_neg c13] at H
       exact absurd H (by simp)
    ·
     rw [if_neg c3] at H
     exact absurd H (by simp)
   ·
    rw [if_neg c2] at H
    have c2b0 : decide (x3_1 < (a0.size : Int)) = false := decide_eq_false c2
    clear c2
    obtain rfl := Option.some.inj H
    go_wp2
    go_ret
    exact ⟨by first | rfl | (simp; done) | (simp [*]; done), by repeat (first | exact Drawn0.refl _ | apply Drawn0.step)⟩
def plaitingref1_Whole.f (k : Nat) (a0 : ByteArray) : Option (Bool) := if a0.toList = ([] : List UInt8) then (some false) else ((plaitingref1_Clean.f k a0).bind fun tAa => (if tAa.toList = a0.toList then (if 0 ≤ (wrap64 ((a0.size : Int) - 1)) then (if (wrap64 ((a0.size : Int) - 1)) < (a0.size : Int) then (some ((bt a0 (wrap64 ((a0.size : Int) - 1))) == 35)) else (none)) else (none)) else (some false)))
set_option maxHeartbeats 8000000 in
set_option maxRecDepth 100000 in
theorem plaitingref1_Whole.calls (k : Nat) (a0 : ByteArray) (r : Bool) (w : World) (h : plaitingref1_Whole.f k a0 = some r) :
  Calls Try.prog 27 #[.string a0] w fun e w' => e = .returned (.bool r) ∧ Drawn0 w w' := by
 have H : (if a0.toList = ([] : List UInt8) then (some false) else ((plaitingref1_Clean.f k a0).bind fun tAa => (if tAa.toList = a0.toList then (if 0 ≤ (wrap64 ((a0.size : Int) - 1)) then (if (wrap64 ((a0.size : Int) - 1)) < (a0.size : Int) then (some ((bt a0 (wrap64 ((a0.size : Int) - 1))) == 35)) else (none)) else (none)) else (some false)))) = some r := h
 clear h
 by_cases c2 : a0.toList = ([] : List UInt8)
 ·
  rw [if_pos c2] at H
  have c2b0 : (a0.toList == ([] : List UInt8)) = true := beq_iff_eq.mpr c2
  have c2b1 : (a0.toList != ([] : List UInt8)) = false := bne_eq_false_iff_eq.mpr c2
  clear c2
  obtain rfl := Option.some.inj H
  go_enter Try.func27, Try.ntmps27
  go_wp2
  go_ret
  exact ⟨by first | rfl | (simp; done) | (simp [*]; done), by repeat (first | exact Drawn0.refl _ | apply Drawn0.step)⟩
 ·
  rw [if_neg c2] at H
  have c2b0 : (a0.toList == ([] : List UInt8)) = false := beq_eq_false_iff_ne.mpr c2
  have c2b1 : (a0.toList != ([] : List UInt8)) = true := bne_iff_ne.mpr c2
  replace H := Option.bind_eq_some_iff.mp H
  obtain ⟨tAa, A30, H⟩ := H
  try dsimp only at H
  have A3 := Aside0.mk A30
  clear A30
  by_cases c4 : tAa.toList = a0.toList
  ·
   rw [if_pos c4] at H
   have c4b0 : (tAa.toList == a0.toList) = true := beq_iff_eq.mpr c4
   have c4b1 : (tAa.toList != a0.toList) = false := bne_eq_false_iff_eq.mpr c4
   clear c4
   obtain ⟨ji5, hji5⟩ : ∃ j_ : Int, (wrap64 ((a0.size : Int) - 1)) = j_ := ⟨_, rfl⟩
   replace H : (if 0 ≤ (ji5) then (if (ji5) < (a0.size : Int) then (some ((bt a0 (ji5)) == 35)) else (none)) else (none)) = some r := by first | (rw [hji5] at H; exact H) | (simp only [hji5] at H ⊢; exact H)
   (try rw [hji5] at A3)
   have hji5w : (IntKind.i64.wrap ((a0.size : Int) - 1)) = ji5 := (i64_w _).trans hji5
   by_cases c6 : 0 ≤ (ji5)
   ·
    rw [if_pos c6] at H
    have c6b0 : decide (0 ≤ (ji5)) = true := decide_eq_true c6
    clear c6
    by_cases c7 : (ji5) < (a0.size : Int)
    ·
     rw [if_pos c7] at H
     have c7b0 : decide ((ji5) < (a0.size : Int)) = true := decide_eq_true c7
     clear c7
     obtain rfl := Option.some.inj H
     go_enter Try.func27, Try.ntmps27
     go_wp2_with (first | (go_at_call 60; (with_reducible refine (plaitingref1_Clean.calls k a0 tAa _ A3.out).mono ?_); rintro e w' ⟨rfl, ⟨nd, rfl⟩⟩; have p8 : 0 ≤ ((ji5) : Int) := of_decide_eq_true (by first | (with_reducible assumption) | assumption); have q8 : (ji5) < (a0.size : Int) := of_decide_eq_true (by first | (with_reducible assumption) | assumption); have hx8 := bt_at a0 (ji5); replace p8 := eq_true p8; replace q8 := eq_true q8))
     go_ret
     exact ⟨by first | rfl | (simp; done) | (simp only [← hji5] <;> (first | rfl | simp)) | (simp [*]; done), by repeat (first | exact Drawn0.refl _ | apply Drawn0.step)⟩
    ·
     rw [if_neg c7] at H
     exact absurd H (by simp)
   ·
    rw [if_neg c6] at H
    exact absurd H (by simp)
  ·
   rw [if_neg c4] at H
   have c4b0 : (tAa.toList == a0.toList) = false := beq_eq_false_iff_ne.mpr c4
   have c4b1 : (tAa.toList != a0.toList) = true := bne_iff_ne.mpr c4
   obtain rfl := Option.some.inj H
   go_enter Try.func27, Try.ntmps27
   go_wp2_with (first | (go_at_call 60; (with_reducible refine (plaitingref1_Clean.calls k a0 tAa _ A3.out).mono ?_); rintro e w' ⟨rfl, ⟨nd, rfl⟩⟩))
   go_ret
   exact ⟨by first | rfl | (simp; done) | (simp [*]; done), by repeat (first | exact Drawn0.refl _ | apply Drawn0.step)⟩
mutual
def plaitingref1_Bits.j0 : Nat → Int → Int → Bool → Option (ByteArray)
 | 0, _, _, _ => none
 | k + 1, x0, x1, x12 => if x12 = true then (some (⟨#[]⟩ : ByteArray)) else (plaitingref1_Bits.l0 k x0 (⟨#[]⟩ : ByteArray) (wrap64 (x1 - 1)))
def plaitingref1_Bits.l0 : Nat → Int → ByteArray → Int → Option (ByteArray)
 | 0, _, _, _ => none
 | k + 1, x0, x5, x6 => if x6 ≥ 0 then (if 0 ≤ (IntKind.u64.wrap (x6)) then (if (Go.bits .and .i64 (shr .i64 x0 (IntKind.u64.wrap (x6))) 1) = 1 then (if x5.size + 1 ≤ 9223372036854775807 then (plaitingref1_Bits.l0 k x0 (x5 ++ (⟨#[49]⟩ : ByteArray)) (wrap64 (x6 - 1))) else (none)) else (if x5.size + 1 ≤ 9223372036854775807 then (plaitingref1_Bits.l0 k x0 (x5 ++ (⟨#[48]⟩ : ByteArray)) (wrap64 (x6 - 1))) else (none))) else (none)) else (some x5)
end
def plaitingref1_Bits.f (k : Nat) (a0 : Int) (a1 : Int) : Option (ByteArray) := if a1 < 1 then (plaitingref1_Bits.j0 k a0 a1 true) else (plaitingref1_Bits.j0 k a0 a1 (decide (a1 > 62)))
set_option maxHeartbeats 8000000 in
set_option maxRecDepth 100000 in
theorem plaitingref1_Bits.calls (k : Nat) (a0 : Int) (a1 : Int) (r : ByteArray) (w : World) (h : plaitingref1_Bits.f k a0 a1 = some r) :
  Calls Try.prog 28 #[.int .i64 a0, .int .i64 a1] w fun e w' => e = .returned (.string r) ∧ Drawn0 w w' := by
 have H : (if a1 < 1 then (plaitingref1_Bits.j0 k a0 a1 true) else (plaitingref1_Bits.j0 k a0 a1 (decide (a1 > 62)))) = some r := h
 clear h
 have HC3 := Aside0.mk H
 clear H
 go_enter Try.func28, Try.ntmps28
 go_upto_region 1 with (fail)
 go_cut [12] (fun v12 wc => ∃ (kq : Nat) (x12_2 : Bool), v12 = .bool x12_2 ∧ Aside0 (plaitingref1_Bits.j0 kq a0 a1 x12_2 = some r) ∧ Aside0 (kq ≤ k) ∧ Drawn0 w wc)
 case first =>
  have H := HC3.out
  clear HC3
  by_cases c4 : a1 < 1
  ·
   rw [if_pos c4] at H
   have c4b0 : decide (a1 < 1) = true := decide_eq_true c4
   clear c4
   (first | rw [c4b0] | (simp only [i64_w, i32_w]; rw [c4b0]) | skip)
   have H' := Aside0.mk H
   clear H
   go_wp2
   go_meet
   case rel => exact ⟨_, (true), (by first | rfl | (simp; done) | (simp [*]; done)), H', ⟨by first | omega | exact Nat.le_refl _⟩, by repeat (first | exact Drawn0.refl _ | apply Drawn0.step)⟩
  ·
   rw [if_neg c4] at H
   have c4b0 : decide (a1 < 1) = false := decide_eq_false c4
   clear c4
   (first | rw [c4b0] | (simp only [i64_w, i32_w]; rw [c4b0]) | skip)
   have H' := Aside0.mk H
   clear H
   go_wp2
   go_meet
   case rel => exact ⟨_, (decide (a1 > 62)), (by first | rfl | (simp; done) | (simp [*]; done)), H', ⟨by first | omega | exact Nat.le_refl _⟩, by repeat (first | exact Drawn0.refl _ | apply Drawn0.step)⟩
 case rest =>
  clear HC3
  try clear c2
  try clear p2
  try clear c4
  try clear c4b0
  obtain ⟨kq, x12_2, rfl, HA, HJ2, ⟨mc2, rfl⟩⟩ := hcut
  cases kq with
  | zero => exact absurd HA.out (by simp [plaitingref1_Bits.j0])
  | succ kj2 =>
   have H := HA.out
   clear HA
   simp only [plaitingref1_Bits.j0] at H
   by_cases c5 : x12_2 = true
   ·
    subst c5
    have H1 : (some (⟨#[]⟩ : ByteArray)) = some r := by rw [if_pos rfl] at H; exact H
    clear H
    have H := H1
    clear H1
    obtain rfl := Option.some.inj H
    go_wp2
    go_ret
    exact ⟨by first | rfl | (simp; done) | (simp [*]; done), by repeat (first | exact Drawn0.refl _ | apply Drawn0.step)⟩
   ·
    replace c5 := Bool.eq_false_iff.mpr c5
    subst c5
    have H1 : (plaitingref1_Bits.l0 kj2 a0 (⟨#[]⟩ : ByteArray) (wrap64 (a1 - 1))) = some r := by rw [if_neg (show ¬ (false = true) by decide)] at H; exact H
    clear H
    have H := H1
    clear H1
    have H' := Aside0.mk H
    clear H
    go_wp2
    go_loopg [5, 6] kj2 (fun kq v5 v6 w' => ∃ (x5_2 : ByteArray) (x6_2 : Int), v5 = .string x5_2 ∧ v6 = .int .i64 x6_2 ∧ Aside0 (plaitingref1_Bits.l0 kq a0 x5_2 x6_2 = some r) ∧ Aside0 (kq ≤ kj2) ∧ Drawn0 w w')
    case atStart => exact ⟨((⟨#[]⟩ : ByteArray)), (wrap64 (a1 - 1)), (by first | rfl | (simp; done) | (simp [*]; done)), (by first | rfl | (simp; done) | (simp [*]; done)), H', ⟨Nat.le_refl _⟩, by repeat (first | exact Drawn0.refl _ | apply Drawn0.step)⟩
    case round =>
     clear H'
     try clear c2
     try clear p2
     try clear c4
     try clear c4b0
     try clear c5
     try clear p2
     obtain ⟨x5_2, x6_2, rfl, rfl, HA, HK2, ⟨m2, rfl⟩⟩ := hrel
     cases gk with
     | zero => exact absurd HA.out (by simp [plaitingref1_Bits.l0])
     | succ k2 =>
      have H := HA.out
      clear HA
      simp only [plaitingref1_Bits.l0] at H
      by_cases c6 : x6_2 ≥ 0
      ·
       rw [if_pos c6] at H
       have c6b0 : decide (0 ≤ x6_2) = true := decide_eq_true c6
       clear c6
       obtain ⟨ji7, hji7⟩ : ∃ j_ : Int, (IntKind.u64.wrap (x6_2)) = j_ := ⟨_, rfl⟩
       replace H : (if 0 ≤ (ji7) then (if (Go.bits .and .i64 (shr .i64 a0 (ji7)) 1) = 1 then (if x5_2.size + 1 ≤ 9223372036854775807 then (plaitingref1_Bits.l0 k2 a0 (x5_2 ++ (⟨#[49]⟩ : ByteArray)) (wrap64 (x6_2 - 1))) else (none)) else (if x5_2.size + 1 ≤ 9223372036854775807 then (plaitingref1_Bits.l0 k2 a0 (x5_2 ++ (⟨#[48]⟩ : ByteArray)) (wrap64 (x6_2 - 1))) else (none))) else (none)) = some r := by first | (rw [hji7] at H; exact H) | (simp only [hji7] at H ⊢; exact H)
       by_cases c8 : 0 ≤ (ji7)
       ·
        rw [if_pos c8] at H
        have c8b0 := eq_true c8
        have c8b1 : decide (0 ≤ (ji7)) = true := decide_eq_true c8
        clear c8
        obtain ⟨ji9, hji9⟩ : ∃ j_ : Int, (shr .i64 a0 (ji7)) = j_ := ⟨_, rfl⟩
        replace H : (if (Go.bits .and .i64 (ji9) 1) = 1 then (if x5_2.size + 1 ≤ 9223372036854775807 then (plaitingref1_Bits.l0 k2 a0 (x5_2 ++ (⟨#[49]⟩ : ByteArray)) (wrap64 (x6_2 - 1))) else (none)) else (if x5_2.size + 1 ≤ 9223372036854775807 then (plaitingref1_Bits.l0 k2 a0 (x5_2 ++ (⟨#[48]⟩ : ByteArray)) (wrap64 (x6_2 - 1))) else (none))) = some r := by first | (rw [hji9] at H; exact H) | (simp only [hji9] at H ⊢; exact H)
        have hji9_ : (a0 / 2 ^ min (ji7).toNat 64) = ji9 := hji9
        have hji9z : (ji7) ≤ 64 → (a0 / 2 ^ (ji7).toNat) = ji9 := shr_small hji9
        by_cases c10 : (Go.bits .and .i64 (ji9) 1) = 1
        ·
         rw [if_pos c10] at H
         have c10b0 : ((Go.bits .and .i64 (ji9) 1) == 1) = true := beq_iff_eq.mpr c10
         have c10b1 : ((Go.bits .and .i64 (ji9) 1) != 1) = false := bne_eq_false_iff_eq.mpr c10
         clear c10
         by_cases c11 : x5_2.size + 1 ≤ 9223372036854775807
         ·
          rw [if_pos c11] at H
          have c11b0 := eq_true c11
          have c11b1 : decide (x5_2.size + 1 ≤ 9223372036854775807) = true := decide_eq_true c11
          try have c11b2 : (9223372036854775807 < x5_2.size + 1) = False := eq_false (Nat.not_lt.2 c11)
          have H' := Aside0.mk H
          clear H
          go_wp2
          go_roundg k2
          case measure => have := HJ2.out; have := HK2.out; omega
          case rel => exact ⟨(x5_2 ++ (⟨#[49]⟩ : ByteArray)), (wrap64 (x6_2 - 1)), (by first | rfl | (simp; done) | (simp [*]; done)), (by first | rfl | (simp; done) | (simp [*]; done)), H', ⟨by have := HJ2.out; have := HK2.out; omega⟩, by repeat (first | exact Drawn0.refl _ | apply Drawn0.step)⟩
         ·
          rw [if_neg c11] at H
          exact absurd H (by simp)
        ·
         rw [if_neg c10] at H
         have c10b0 : ((Go.bits .and .i64 (ji9) 1) == 1) = false := beq_eq_false_iff_ne.mpr c10
         have c10b1 : ((Go.bits .and .i64 (ji9) 1) != 1) = true := bne_iff_ne.mpr c10
         by_cases c12 : x5_2.size + 1 ≤ 9223372036854775807
         ·
          rw [if_pos c12] at H
          have c12b0 := eq_true c12
          have c12b1 : decide (x5_2.size + 1 ≤ 9223372036854775807) = true := decide_eq_true c12
          try have c12b2 : (9223372036854775807 < x5_2.size + 1) = False := eq_false (Nat.not_lt.2 c12)
          have H' := Aside0.mk H
          clear H
          go_wp2
          go_roundg k2
          case measure => have := HJ2.out; have := HK2.out; omega
          case rel => exact ⟨(x5_2 ++ (⟨#[48]⟩ : ByteArray)), (wrap64 (x6_2 - 1)), (by first | rfl | (simp; done) | (simp [*]; done)), (by first | rfl | (simp; done) | (simp [*]; done)), H', ⟨by have := HJ2.out; have := HK2.out; omega⟩, by repeat (first | exact Drawn0.refl _ | apply Drawn0.step)⟩
         ·
          rw [if_neg c12] at H
          exact absurd H (by simp)
       ·
        rw [if_neg c8] at H
        exact absurd H (by simp)
      ·
       rw [if_neg c6] at H
       have c6b0 : decide (0 ≤ x6_2) = false := decide_eq_false c6
       clear c6
       obtain rfl := Option.some.inj H
       go_wp2
       go_ret
       exact ⟨by first | rfl | (simp; done) | (simp [*]; done), by repeat (first | exact Drawn0.refl _ | apply Drawn0.step)⟩
def plaitingref1_Turn.j0 : Nat → ByteArray → Int → Bool → Option (ByteArray)
 | 0, _, _, _ => none
 | k + 1, x0, x1, x13 => if x13 = true then (some x0) else (if 0 ≤ x1 then (if x1 ≤ (wrap64 (x1 + 1)) then (if (wrap64 (x1 + 1)) ≤ (x0.size : Int) then (if (x0.extract (x1 : Int).toNat ((wrap64 (x1 + 1)) : Int).toNat).toList = ([48] : List UInt8) then (if x1 ≤ (x0.size : Int) then (if (x0.extract 0 (x1 : Int).toNat).size + 1 ≤ 9223372036854775807 then (if 0 ≤ (wrap64 (x1 + 1)) then (if ((x0.extract 0 (x1 : Int).toNat) ++ (⟨#[49]⟩ : ByteArray)).size + (x0.extract ((wrap64 (x1 + 1)) : Int).toNat x0.size).size ≤ 9223372036854775807 then (some (((x0.extract 0 (x1 : Int).toNat) ++ (⟨#[49]⟩ : ByteArray)) ++ (x0.extract ((wrap64 (x1 + 1)) : Int).toNat x0.size))) else (none)) else (none)) else (none)) else (none)) else (if (x0.extract (x1 : Int).toNat ((wrap64 (x1 + 1)) : Int).toNat).toList = ([49] : List UInt8) then (if x1 ≤ (x0.size : Int) then (if (x0.extract 0 (x1 : Int).toNat).size + 1 ≤ 9223372036854775807 then (if 0 ≤ (wrap64 (x1 + 1)) then (if ((x0.extract 0 (x1 : Int).toNat) ++ (⟨#[48]⟩ : ByteArray)).size + (x0.extract ((wrap64 (x1 + 1)) : Int).toNat x0.size).size ≤ 9223372036854775807 then (some (((x0.extract 0 (x1 : Int).toNat) ++ (⟨#[48]⟩ : ByteArray)) ++ (x0.extract ((wrap64 (x1 + 1)) : Int).toNat x0.size))) else (none)) else (none)) else (none)) else (none)) else (if (x0.extract (x1 : Int).toNat ((wrap64 (x1 + 1)) : Int).toNat).toList = ([35] : List UInt8) then (if x1 ≤ (x0.size : Int) then (if (x0.extract 0 (x1 : Int).toNat).size + 1 ≤ 9223372036854775807 then (if 0 ≤ (wrap64 (x1 + 1)) then (if ((x0.extract 0 (x1 : Int).toNat) ++ (⟨#[48]⟩ : ByteArray)).size + (x0.extract ((wrap64 (x1 + 1)) : Int).toNat x0.size).size ≤ 9223372036854775807 then (some (((x0.extract 0 (x1 : Int).toNat) ++ (⟨#[48]⟩ : ByteArray)) ++ (x0.extract ((wrap64 (x1 + 1)) : Int).toNat x0.size))) else (none)) else (none)) else (none)) else (none)) else (if x1 ≤ (x0.size : Int) then (if (x0.extract 0 (x1 : Int).toNat).size + (x0.extract (x1 : Int).toNat ((wrap64 (x1 + 1)) : Int).toNat).size ≤ 9223372036854775807 then (if 0 ≤ (wrap64 (x1 + 1)) then (if ((x0.extract 0 (x1 : Int).toNat) ++ (x0.extract (x1 : Int).toNat ((wrap64 (x1 + 1)) : Int).toNat)).size + (x0.extract ((wrap64 (x1 + 1)) : Int).toNat x0.size).size ≤ 9223372036854775807 then (some (((x0.extract 0 (x1 : Int).toNat) ++ (x0.extract (x1 : Int).toNat ((wrap64 (x1 + 1)) : Int).toNat)) ++ (x0.extract ((wrap64 (x1 + 1)) : Int).toNat x0.size))) else (none)) else (none)) else (none)) else (none))))) else (none)) else (none)) else (none))
def plaitingref1_Turn.f (k : Nat) (a0 : ByteArray) (a1 : Int) : Option (ByteArray) := if a1 < 0 then (plaitingref1_Turn.j0 k a0 a1 true) else (plaitingref1_Turn.j0 k a0 a1 (decide (a1 ≥ (a0.size : Int))))
set_option maxHeartbeats 8000000 in
set_option maxRecDepth 100000 in
theorem plaitingref1_Turn.calls (k : Nat) (a0 : ByteArray) (a1 : Int) (r : ByteArray) (w : World) (h : plaitingref1_Turn.f k a0 a1 = some r) :
  Calls Try.prog 32 #[.string a0, .int .i64 a1] w fun e w' => e = .returned (.string r) ∧ Drawn0 w w' := by
 have H : (if a1 < 0 then (plaitingref1_Turn.j0 k a0 a1 true) else (plaitingref1_Turn.j0 k a0 a1 (decide (a1 ≥ (a0.size : Int))))) = some r := h
 clear h
 have HC3 := Aside0.mk H
 clear H
 go_enter Try.func32, Try.ntmps32
 go_upto_region 1 with (fail)
 repeat (go_quiet (fail); go_upto_region 1 with (fail))
 go_cut [13] (fun v13 wc => ∃ (kq : Nat) (x13_2 : Bool), v13 = .bool x13_2 ∧ Aside0 (plaitingref1_Turn.j0 kq a0 a1 x13_2 = some r) ∧ Aside0 (kq ≤ k) ∧ Drawn0 w wc)
 case first =>
  have H := HC3.out
  clear HC3
  by_cases c4 : a1 < 0
  ·
   rw [if_pos c4] at H
   have c4b0 : decide (a1 < 0) = true := decide_eq_true c4
   clear c4
   (first | rw [c4b0] | (simp only [i64_w, i32_w]; rw [c4b0]) | skip)
   have H' := Aside0.mk H
   clear H
   go_wp2
   repeat (go_quiet (fail); try go_wp2)
   go_meet
   case rel => exact ⟨_, (true), (by first | rfl | (simp; done) | (simp [*]; done)), H', ⟨by first | omega | exact Nat.le_refl _⟩, by repeat (first | exact Drawn0.refl _ | apply Drawn0.step)⟩
  ·
   rw [if_neg c4] at H
   have c4b0 : decide (a1 < 0) = false := decide_eq_false c4
   clear c4
   (first | rw [c4b0] | (simp only [i64_w, i32_w]; rw [c4b0]) | skip)
   have H' := Aside0.mk H
   clear H
   go_wp2
   repeat (go_quiet (fail); try go_wp2)
   go_meet
   case rel => exact ⟨_, (decide (a1 ≥ (a0.size : Int))), (by first | rfl | (simp; done) | (simp [*]; done)), H', ⟨by first | omega | exact Nat.le_refl _⟩, by repeat (first | exact Drawn0.refl _ | apply Drawn0.step)⟩
 case rest =>
  clear HC3
  try clear p2
  try clear c3
  try clear c4
  try clear c4b0
  obtain ⟨kq, x13_2, rfl, HA, HJ2, ⟨mc2, rfl⟩⟩ := hcut
  cases kq with
  | zero => exact absurd HA.out (by simp [plaitingref1_Turn.j0])
  | succ kj2 =>
   have H := HA.out
   clear HA
   simp only [plaitingref1_Turn.j0] at H
   by_cases c5 : x13_2 = true
   ·
    subst c5
    have H1 : (some a0) = some r := by rw [if_pos rfl] at H; exact H
    clear H
    have H := H1
    clear H1
    obtain rfl := Option.some.inj H
    go_wp2
    repeat (go_quiet (fail); try go_wp2)
    go_ret
    exact ⟨by first | rfl | (simp; done) | (simp [*]; done), by repeat (first | exact Drawn0.refl _ | apply Drawn0.step)⟩
   ·
    replace c5 := Bool.eq_false_iff.mpr c5
    subst c5
    have H1 : (if 0 ≤ a1 then (if a1 ≤ (wrap64 (a1 + 1)) then (if (wrap64 (a1 + 1)) ≤ (a0.size : Int) then (if (a0.extract (a1 : Int).toNat ((wrap64 (a1 + 1)) : Int).toNat).toList = ([48] : List UInt8) then (if a1 ≤ (a0.size : Int) then (if (a0.extract 0 (a1 : Int).toNat).size + 1 ≤ 9223372036854775807 then (if 0 ≤ (wrap64 (a1 + 1)) then (if ((a0.extract 0 (a1 : Int).toNat) ++ (⟨#[49]⟩ : ByteArray)).size + (a0.extract ((wrap64 (a1 + 1)) : Int).toNat a0.size).size ≤ 9223372036854775807 then (some (((a0.extract 0 (a1 : Int).toNat) ++ (⟨#[49]⟩ : ByteArray)) ++ (a0.extract ((wrap64 (a1 + 1)) : Int).toNat a0.size))) else (none)) else (none)) else (none)) else (none)) else (if (a0.extract (a1 : Int).toNat ((wrap64 (a1 + 1)) : Int).toNat).toList = ([49] : List UInt8) then (if a1 ≤ (a0.size : Int) then (if (a0.extract 0 (a1 : Int).toNat).size + 1 ≤ 9223372036854775807 then (if 0 ≤ (wrap64 (a1 + 1)) then (if ((a0.extract 0 (a1 : Int).toNat) ++ (⟨#[48]⟩ : ByteArray)).size + (a0.extract ((wrap64 (a1 + 1)) : Int).toNat a0.size).size ≤ 9223372036854775807 then (some (((a0.extract 0 (a1 : Int).toNat) ++ (⟨#[48]⟩ : ByteArray)) ++ (a0.extract ((wrap64 (a1 + 1)) : Int).toNat a0.size))) else (none)) else (none)) else (none)) else (none)) else (if (a0.extract (a1 : Int).toNat ((wrap64 (a1 + 1)) : Int).toNat).toList = ([35] : List UInt8) then (if a1 ≤ (a0.size : Int) then (if (a0.extract 0 (a1 : Int).toNat).size + 1 ≤ 9223372036854775807 then (if 0 ≤ (wrap64 (a1 + 1)) then (if ((a0.extract 0 (a1 : Int).toNat) ++ (⟨#[48]⟩ : ByteArray)).size + (a0.extract ((wrap64 (a1 + 1)) : Int).toNat a0.size).size ≤ 9223372036854775807 then (some (((a0.extract 0 (a1 : Int).toNat) ++ (⟨#[48]⟩ : ByteArray)) ++ (a0.extract ((wrap64 (a1 + 1)) : Int).toNat a0.size))) else (none)) else (none)) else (none)) else (none)) else (if a1 ≤ (a0.size : Int) then (if (a0.extract 0 (a1 : Int).toNat).size + (a0.extract (a1 : Int).toNat ((wrap64 (a1 + 1)) : Int).toNat).size ≤ 9223372036854775807 then (if 0 ≤ (wrap64 (a1 + 1)) then (if ((a0.extract 0 (a1 : Int).toNat) ++ (a0.extract (a1 : Int).toNat ((wrap64 (a1 + 1)) : Int).toNat)).size + (a0.extract ((wrap64 (a1 + 1)) : Int).toNat a0.size).size ≤ 9223372036854775807 then (some (((a0.extract 0 (a1 : Int).toNat) ++ (a0.extract (a1 : Int).toNat ((wrap64 (a1 + 1)) : Int).toNat)) ++ (a0.extract ((wrap64 (a1 + 1)) : Int).toNat a0.size))) else (none)) else (none)) else (none)) else (none))))) else (none)) else (none)) else (none)) = some r := by rw [if_neg (show ¬ (false = true) by decide)] at H; exact H
    clear H
    have H := H1
    clear H1
    by_cases c6 : 0 ≤ a1
    ·
     rw [if_pos c6] at H
     have c6b0 := eq_true c6
     have c6b1 : decide (0 ≤ a1) = true := decide_eq_true c6
     clear c6
     by_cases c7 : a1 ≤ (wrap64 (a1 + 1))
     ·
      rw [if_pos c7] at H
      have c7b0 := eq_true c7
      have c7b1 : decide (a1 ≤ (wrap64 (a1 + 1))) = true := decide_eq_true c7
      by_cases c8 : (wrap64 (a1 + 1)) ≤ (a0.size : Int)
      ·
       rw [if_pos c8] at H
       have c8b0 := eq_true c8
       have c8b1 : decide ((wrap64 (a1 + 1)) ≤ (a0.size : Int)) = true := decide_eq_true c8
       by_cases c9 : (a0.extract (a1 : Int).toNat ((wrap64 (a1 + 1)) : Int).toNat).toList = ([48] : List UInt8)
       ·
        rw [if_pos c9] at H
        have c9b0 : ((a0.extract (a1 : Int).toNat ((wrap64 (a1 + 1)) : Int).toNat).toList == ([48] : List UInt8)) = true := beq_iff_eq.mpr c9
        have c9b1 : ((a0.extract (a1 : Int).toNat ((wrap64 (a1 + 1)) : Int).toNat).toList != ([48] : List UInt8)) = false := bne_eq_false_iff_eq.mpr c9
        clear c9
        have c10b0 := eq_true (of_decide_eq_true (by first | (with_reducible assumption) | assumption) : 0 ≤ a1)
        by_cases c11 : a1 ≤ (a0.size : Int)
        ·
         rw [if_pos c11] at H
         have c11b0 := eq_true c11
         have c11b1 : decide (a1 ≤ (a0.size : Int)) = true := decide_eq_true c11
         clear c11
         by_cases c12 : (a0.extract 0 (a1 : Int).toNat).size + 1 ≤ 9223372036854775807
         ·
          rw [if_pos c12] at H
          have c12b0 := eq_true c12
          have c12b1 : decide ((a0.extract 0 (a1 : Int).toNat).size + 1 ≤ 9223372036854775807) = true := decide_eq_true c12
          try have c12b2 : (9223372036854775807 < (a0.extract 0 (a1 : Int).toNat).size + 1) = False := eq_false (Nat.not_lt.2 c12)
          obtain ⟨ji13, hji13⟩ : ∃ j_ : Int, (wrap64 (a1 + 1)) = j_ := ⟨_, rfl⟩
          replace H : (if 0 ≤ (ji13) then (if ((a0.extract 0 (a1 : Int).toNat) ++ (⟨#[49]⟩ : ByteArray)).size + (a0.extract ((ji13) : Int).toNat a0.size).size ≤ 9223372036854775807 then (some (((a0.extract 0 (a1 : Int).toNat) ++ (⟨#[49]⟩ : ByteArray)) ++ (a0.extract ((ji13) : Int).toNat a0.size))) else (none)) else (none)) = some r := by first | (rw [hji13] at H; exact H) | (simp only [hji13] at H ⊢; exact H)
          (try rw [hji13] at c7b0)
          (try rw [hji13] at c7b1)
          (try rw [hji13] at c7b2)
          (try rw [hji13] at c7)
          (try rw [hji13] at c8b0)
          (try rw [hji13] at c8b1)
          (try rw [hji13] at c8b2)
          (try rw [hji13] at c8)
          (try rw [hji13] at c9b0)
          (try rw [hji13] at c9b1)
          (try rw [hji13] at c9b2)
          have hji13w : (IntKind.i64.wrap (a1 + 1)) = ji13 := (i64_w _).trans hji13
          by_cases c14 : 0 ≤ (ji13)
          ·
           rw [if_pos c14] at H
           have c14b0 := eq_true c14
           have c14b1 : decide (0 ≤ (ji13)) = true := decide_eq_true c14
           clear c14
           have c15b0 := eq_true (of_decide_eq_true (by first | (with_reducible assumption) | assumption) : (ji13) ≤ (a0.size : Int))
           by_cases c16 : ((a0.extract 0 (a1 : Int).toNat) ++ (⟨#[49]⟩ : ByteArray)).size + (a0.extract ((ji13) : Int).toNat a0.size).size ≤ 9223372036854775807
           ·
            rw [if_pos c16] at H
            have c16b0 := eq_true c16
            have c16b1 : decide (((a0.extract 0 (a1 : Int).toNat) ++ (⟨#[49]⟩ : ByteArray)).size + (a0.extract ((ji13) : Int).toNat a0.size).size ≤ 9223372036854775807) = true := decide_eq_true c16
            try have c16b2 : (9223372036854775807 < ((a0.extract 0 (a1 : Int).toNat) ++ (⟨#[49]⟩ : ByteArray)).size + (a0.extract ((ji13) : Int).toNat a0.size).size) = False := eq_false (Nat.not_lt.2 c16)
            obtain rfl := Option.some.inj H
            go_wp2
            repeat (go_quiet (fail); try go_wp2)
            go_ret
            exact ⟨by first | rfl | (simp; done) | (simp only [← hji13] <;> (first | rfl | simp)) | (simp [*]; done), by repeat (first | exact Drawn0.refl _ | apply Drawn0.step)⟩
           ·
            rw [if_neg c16] at H
            exact absurd H (by simp)
          ·
           rw [if_neg c14] at H
           exact absurd H (by simp)
         ·
          rw [if_neg c12] at H
          exact absurd H (by simp)
        ·
         rw [if_neg c11] at H
         exact absurd H (by simp)
       ·
        rw [if_neg c9] at H
        have c9b0 : ((a0.extract (a1 : Int).toNat ((wrap64 (a1 + 1)) : Int).toNat).toList == ([48] : List UInt8)) = false := beq_eq_false_iff_ne.mpr c9
        have c9b1 : ((a0.extract (a1 : Int).toNat ((wrap64 (a1 + 1)) : Int).toNat).toList != ([48] : List UInt8)) = true := bne_iff_ne.mpr c9
        by_cases c17 : (a0.extract (a1 : Int).toNat ((wrap64 (a1 + 1)) : Int).toNat).toList = ([49] : List UInt8)
        ·
         rw [if_pos c17] at H
         have c17b0 : ((a0.extract (a1 : Int).toNat ((wrap64 (a1 + 1)) : Int).toNat).toList == ([49] : List UInt8)) = true := beq_iff_eq.mpr c17
         have c17b1 : ((a0.extract (a1 : Int).toNat ((wrap64 (a1 + 1)) : Int).toNat).toList != ([49] : List UInt8)) = false := bne_eq_false_iff_eq.mpr c17
         clear c17
         have c18b0 := eq_true (of_decide_eq_true (by first | (with_reducible assumption) | assumption) : 0 ≤ a1)
         by_cases c19 : a1 ≤ (a0.size : Int)
         ·
          rw [if_pos c19] at H
          have c19b0 := eq_true c19
          have c19b1 : decide (a1 ≤ (a0.size : Int)) = true := decide_eq_true c19
          clear c19
          by_cases c20 : (a0.extract 0 (a1 : Int).toNat).size + 1 ≤ 9223372036854775807
          ·
           rw [if_pos c20] at H
           have c20b0 := eq_true c20
           have c20b1 : decide ((a0.extract 0 (a1 : Int).toNat).size + 1 ≤ 9223372036854775807) = true := decide_eq_true c20
           try have c20b2 : (9223372036854775807 < (a0.extract 0 (a1 : Int).toNat).size + 1) = False := eq_false (Nat.not_lt.2 c20)
           obtain ⟨ji21, hji21⟩ : ∃ j_ : Int, (wrap64 (a1 + 1)) = j_ := ⟨_, rfl⟩
           replace H : (if 0 ≤ (ji21) then (if ((a0.extract 0 (a1 : Int).toNat) ++ (⟨#[48]⟩ : ByteArray)).size + (a0.extract ((ji21) : Int).toNat a0.size).size ≤ 9223372036854775807 then (some (((a0.extract 0 (a1 : Int).toNat) ++ (⟨#[48]⟩ : ByteArray)) ++ (a0.extract ((ji21) : Int).toNat a0.size))) else (none)) else (none)) = some r := by first | (rw [hji21] at H; exact H) | (simp only [hji21] at H ⊢; exact H)
           (try rw [hji21] at c7b0)
           (try rw [hji21] at c7b1)
           (try rw [hji21] at c7b2)
           (try rw [hji21] at c7)
           (try rw [hji21] at c8b0)
           (try rw [hji21] at c8b1)
           (try rw [hji21] at c8b2)
           (try rw [hji21] at c8)
           (try rw [hji21] at c9b0)
           (try rw [hji21] at c9b1)
           (try rw [hji21] at c9b2)
           (try rw [hji21] at c17b0)
           (try rw [hji21] at c17b1)
           (try rw [hji21] at c17b2)
           have hji21w : (IntKind.i64.wrap (a1 + 1)) = ji21 := (i64_w _).trans hji21
           by_cases c22 : 0 ≤ (ji21)
           ·
            rw [if_pos c22] at H
            have c22b0 := eq_true c22
            have c22b1 : decide (0 ≤ (ji21)) = true := decide_eq_true c22
            clear c22
            have c23b0 := eq_true (of_decide_eq_true (by first | (with_reducible assumption) | assumption) : (ji21) ≤ (a0.size : Int))
            by_cases c24 : ((a0.extract 0 (a1 : Int).toNat) ++ (⟨#[48]⟩ : ByteArray)).size + (a0.extract ((ji21) : Int).toNat a0.size).size ≤ 9223372036854775807
            ·
             rw [if_pos c24] at H
             have c24b0 := eq_true c24
             have c24b1 : decide (((a0.extract 0 (a1 : Int).toNat) ++ (⟨#[48]⟩ : ByteArray)).size + (a0.extract ((ji21) : Int).toNat a0.size).size ≤ 9223372036854775807) = true := decide_eq_true c24
             try have c24b2 : (9223372036854775807 < ((a0.extract 0 (a1 : Int).toNat) ++ (⟨#[48]⟩ : ByteArray)).size + (a0.extract ((ji21) : Int).toNat a0.size).size) = False := eq_false (Nat.not_lt.2 c24)
             obtain rfl := Option.some.inj H
             go_wp2
             repeat (go_quiet (fail); try go_wp2)
             go_ret
             exact ⟨by first | rfl | (simp; done) | (simp only [← hji21] <;> (first | rfl | simp)) | (simp [*]; done), by repeat (first | exact Drawn0.refl _ | apply Drawn0.step)⟩
            ·
             rw [if_neg c24] at H
             exact absurd H (by simp)
           ·
            rw [if_neg c22] at H
            exact absurd H (by simp)
          ·
           rw [if_neg c20] at H
           exact absurd H (by simp)
         ·
          rw [if_neg c19] at H
          exact absurd H (by simp)
        ·
         rw [if_neg c17] at H
         have c17b0 : ((a0.extract (a1 : Int).toNat ((wrap64 (a1 + 1)) : Int).toNat).toList == ([49] : List UInt8)) = false := beq_eq_false_iff_ne.mpr c17
         have c17b1 : ((a0.extract (a1 : Int).toNat ((wrap64 (a1 + 1)) : Int).toNat).toList != ([49] : List UInt8)) = true := bne_iff_ne.mpr c17
         by_cases c25 : (a0.extract (a1 : Int).toNat ((wrap64 (a1 + 1)) : Int).toNat).toList = ([35] : List UInt8)
         ·
          rw [if_pos c25] at H
          have c25b0 : ((a0.extract (a1 : Int).toNat ((wrap64 (a1 + 1)) : Int).toNat).toList == ([35] : List UInt8)) = true := beq_iff_eq.mpr c25
          have c25b1 : ((a0.extract (a1 : Int).toNat ((wrap64 (a1 + 1)) : Int).toNat).toList != ([35] : List UInt8)) = false := bne_eq_false_iff_eq.mpr c25
          clear c25
          have c26b0 := eq_true (of_decide_eq_true (by first | (with_reducible assumption) | assumption) : 0 ≤ a1)
          by_cases c27 : a1 ≤ (a0.size : Int)
          ·
           rw [if_pos c27] at H
           have c27b0 := eq_true c27
           have c27b1 : decide (a1 ≤ (a0.size : Int)) = true := decide_eq_true c27
           clear c27
           by_cases c28 : (a0.extract 0 (a1 : Int).toNat).size + 1 ≤ 9223372036854775807
           ·
            rw [if_pos c28] at H
            have c28b0 := eq_true c28
            have c28b1 : decide ((a0.extract 0 (a1 : Int).toNat).size + 1 ≤ 9223372036854775807) = true := decide_eq_true c28
            try have c28b2 : (9223372036854775807 < (a0.extract 0 (a1 : Int).toNat).size + 1) = False := eq_false (Nat.not_lt.2 c28)
            obtain ⟨ji29, hji29⟩ : ∃ j_ : Int, (wrap64 (a1 + 1)) = j_ := ⟨_, rfl⟩
            replace H : (if 0 ≤ (ji29) then (if ((a0.extract 0 (a1 : Int).toNat) ++ (⟨#[48]⟩ : ByteArray)).size + (a0.extract ((ji29) : Int).toNat a0.size).size ≤ 9223372036854775807 then (some (((a0.extract 0 (a1 : Int).toNat) ++ (⟨#[48]⟩ : ByteArray)) ++ (a0.extract ((ji29) : Int).toNat a0.size))) else (none)) else (none)) = some r := by first | (rw [hji29] at H; exact H) | (simp only [hji29] at H ⊢; exact H)
            (try rw [hji29] at c7b0)
            (try rw [hji29] at c7b1)
            (try rw [hji29] at c7b2)
            (try rw [hji29] at c7)
            (try rw [hji29] at c8b0)
            (try rw [hji29] at c8b1)
            (try rw [hji29] at c8b2)
            (try rw [hji29] at c8)
            (try rw [hji29] at c9b0)
            (try rw [hji29] at c9b1)
            (try rw [hji29] at c9b2)
            (try rw [hji29] at c17b0)
            (try rw [hji29] at c17b1)
            (try rw [hji29] at c17b2)
            (try rw [hji29] at c25b0)
            (try rw [hji29] at c25b1)
            (try rw [hji29] at c25b2)
            have hji29w : (IntKind.i64.wrap (a1 + 1)) = ji29 := (i64_w _).trans hji29
            by_cases c30 : 0 ≤ (ji29)
            ·
             rw [if_pos c30] at H
             have c30b0 := eq_true c30
             have c30b1 : decide (0 ≤ (ji29)) = true := decide_eq_true c30
             clear c30
             have c31b0 := eq_true (of_decide_eq_true (by first | (with_reducible assumption) | assumption) : (ji29) ≤ (a0.size : Int))
             by_cases c32 : ((a0.extract 0 (a1 : Int).toNat) ++ (⟨#[48]⟩ : ByteArray)).size + (a0.extract ((ji29) : Int).toNat a0.size).size ≤ 9223372036854775807
             ·
              rw [if_pos c32] at H
              have c32b0 := eq_true c32
              have c32b1 : decide (((a0.extract 0 (a1 : Int).toNat) ++ (⟨#[48]⟩ : ByteArray)).size + (a0.extract ((ji29) : Int).toNat a0.size).size ≤ 9223372036854775807) = true := decide_eq_true c32
              try have c32b2 : (9223372036854775807 < ((a0.extract 0 (a1 : Int).toNat) ++ (⟨#[48]⟩ : ByteArray)).size + (a0.extract ((ji29) : Int).toNat a0.size).size) = False := eq_false (Nat.not_lt.2 c32)
              obtain rfl := Option.some.inj H
              go_wp2
              repeat (go_quiet (fail); try go_wp2)
              go_ret
              exact ⟨by first | rfl | (simp; done) | (simp only [← hji29] <;> (first | rfl | simp)) | (simp [*]; done), by repeat (first | exact Drawn0.refl _ | apply Drawn0.step)⟩
             ·
              rw [if_neg c32] at H
              exact absurd H (by simp)
            ·
             rw [if_neg c30] at H
             exact absurd H (by simp)
           ·
            rw [if_neg c28] at H
            exact absurd H (by simp)
          ·
           rw [if_neg c27] at H
           exact absurd H (by simp)
         ·
          rw [if_neg c25] at H
          have c25b0 : ((a0.extract (a1 : Int).toNat ((wrap64 (a1 + 1)) : Int).toNat).toList == ([35] : List UInt8)) = false := beq_eq_false_iff_ne.mpr c25
          have c25b1 : ((a0.extract (a1 : Int).toNat ((wrap64 (a1 + 1)) : Int).toNat).toList != ([35] : List UInt8)) = true := bne_iff_ne.mpr c25
          have c33b0 := eq_true (of_decide_eq_true (by first | (with_reducible assumption) | assumption) : 0 ≤ a1)
          by_cases c34 : a1 ≤ (a0.size : Int)
          ·
           rw [if_pos c34] at H
           have c34b0 := eq_true c34
           have c34b1 : decide (a1 ≤ (a0.size : Int)) = true := decide_eq_true c34
           clear c34
           by_cases c35 : (a0.extract 0 (a1 : Int).toNat).size + (a0.extract (a1 : Int).toNat ((wrap64 (a1 + 1)) : Int).toNat).size ≤ 9223372036854775807
           ·
            rw [if_pos c35] at H
            have c35b0 := eq_true c35
            have c35b1 : decide ((a0.extract 0 (a1 : Int).toNat).size + (a0.extract (a1 : Int).toNat ((wrap64 (a1 + 1)) : Int).toNat).size ≤ 9223372036854775807) = true := decide_eq_true c35
            try have c35b2 : (9223372036854775807 < (a0.extract 0 (a1 : Int).toNat).size + (a0.extract (a1 : Int).toNat ((wrap64 (a1 + 1)) : Int).toNat).size) = False := eq_false (Nat.not_lt.2 c35)
            obtain ⟨ji36, hji36⟩ : ∃ j_ : Int, (wrap64 (a1 + 1)) = j_ := ⟨_, rfl⟩
            replace H : (if 0 ≤ (ji36) then (if ((a0.extract 0 (a1 : Int).toNat) ++ (a0.extract (a1 : Int).toNat ((ji36) : Int).toNat)).size + (a0.extract ((ji36) : Int).toNat a0.size).size ≤ 9223372036854775807 then (some (((a0.extract 0 (a1 : Int).toNat) ++ (a0.extract (a1 : Int).toNat ((ji36) : Int).toNat)) ++ (a0.extract ((ji36) : Int).toNat a0.size))) else (none)) else (none)) = some r := by first | (rw [hji36] at H; exact H) | (simp only [hji36] at H ⊢; exact H)
            (try rw [hji36] at c7b0)
            (try rw [hji36] at c7b1)
            (try rw [hji36] at c7b2)
            (try rw [hji36] at c7)
            (try rw [hji36] at c8b0)
            (try rw [hji36] at c8b1)
            (try rw [hji36] at c8b2)
            (try rw [hji36] at c8)
            (try rw [hji36] at c9b0)
            (try rw [hji36] at c9b1)
            (try rw [hji36] at c9b2)
            (try rw [hji36] at c17b0)
            (try rw [hji36] at c17b1)
            (try rw [hji36] at c17b2)
            (try rw [hji36] at c25b0)
            (try rw [hji36] at c25b1)
            (try rw [hji36] at c25b2)
            (try rw [hji36] at c35b0)
            (try rw [hji36] at c35b1)
            (try rw [hji36] at c35b2)
            (try rw [hji36] at c35)
            have hji36w : (IntKind.i64.wrap (a1 + 1)) = ji36 := (i64_w _).trans hji36
            by_cases c37 : 0 ≤ (ji36)
            ·
             rw [if_pos c37] at H
             have c37b0 := eq_true c37
             have c37b1 : decide (0 ≤ (ji36)) = true := decide_eq_true c37
             clear c37
             have c38b0 := eq_true (of_decide_eq_true (by first | (with_reducible assumption) | assumption) : (ji36) ≤ (a0.size : Int))
             by_cases c39 : ((a0.extract 0 (a1 : Int).toNat) ++ (a0.extract (a1 : Int).toNat ((ji36) : Int).toNat)).size + (a0.extract ((ji36) : Int).toNat a0.size).size ≤ 9223372036854775807
             ·
              rw [if_pos c39] at H
              have c39b0 := eq_true c39
              have c39b1 : decide (((a0.extract 0 (a1 : Int).toNat) ++ (a0.extract (a1 : Int).toNat ((ji36) : Int).toNat)).size + (a0.extract ((ji36) : Int).toNat a0.size).size ≤ 9223372036854775807) = true := decide_eq_true c39
              try have c39b2 : (9223372036854775807 < ((a0.extract 0 (a1 : Int).toNat) ++ (a0.extract (a1 : Int).toNat ((ji36) : Int).toNat)).size + (a0.extract ((ji36) : Int).toNat a0.size).size) = False := eq_false (Nat.not_lt.2 c39)
              obtain rfl := Option.some.inj H
              go_wp2
              repeat (go_quiet (fail); try go_wp2)
              go_ret
              exact ⟨by first | rfl | (simp; done) | (simp only [← hji36] <;> (first | rfl | simp)) | (simp [*]; done), by repeat (first | exact Drawn0.refl _ | apply Drawn0.step)⟩
             ·
              rw [if_neg c39] at H
              exact absurd H (by simp)
            ·
             rw [if_neg c37] at H
             exact absurd H (by simp)
           ·
            rw [if_neg c35] at H
            exact absurd H (by simp)
          ·
           rw [if_neg c34] at H
           exact absurd H (by simp)
      ·
       rw [if_neg c8] at H
       exact absurd H (by simp)
     ·
      rw [if_neg c7] at H
      exact absurd H (by simp)
    ·
     rw [if_neg c6] at H
     exact absurd H (by simp)
mutual
def plaitingref1_Num.j0 : Nat → ByteArray → Bool → Option (Int × Bool)
 | 0, _, _ => none
 | k + 1, x0, x13 => if x13 = true then (some (0, false)) else (plaitingref1_Num.l0 k x0 0 0)
def plaitingref1_Num.l0 : Nat → ByteArray → Int → Int → Option (Int × Bool)
 | 0, _, _, _ => none
 | k + 1, x0, x4, x5 => if x5 < (x0.size : Int) then (if 0 ≤ x5 then (if (bt x0 x5) = 48 then (plaitingref1_Num.j2 k x0 x4 x5 false) else (plaitingref1_Num.j2 k x0 x4 x5 ((bt x0 x5) != 49))) else (none)) else (some (x4, true))
def plaitingref1_Num.j2 : Nat → ByteArray → Int → Int → Bool → Option (Int × Bool)
 | 0, _, _, _, _ => none
 | k + 1, x0, x4, x5, x29 => if x29 = true then (some (0, false)) else (if 0 ≤ x5 then (if x5 < (x0.size : Int) then (if (bt x0 x5) = 49 then (plaitingref1_Num.l0 k x0 (wrap64 ((wrap64 (2 * x4)) + 1)) (wrap64 (x5 + 1))) else (plaitingref1_Num.l0 k x0 (wrap64 (2 * x4)) (wrap64 (x5 + 1)))) else (none)) else (none))
end
def plaitingref1_Num.f (k : Nat) (a0 : ByteArray) : Option (Int × Bool) := if (a0.size : Int) < 1 then (plaitingref1_Num.j0 k a0 true) else (plaitingref1_Num.j0 k a0 (decide ((a0.size : Int) > 62)))
set_option maxHeartbeats 8000000 in
set_option maxRecDepth 100000 in
theorem plaitingref1_Num.calls (k : Nat) (a0 : ByteArray) (r1 : Int) (r2 : Bool) (w : World) (h : plaitingref1_Num.f k a0 = some (r1, r2)) :
  Calls Try.prog 82 #[.string a0] w fun e w' => e = .returned (.tuple #[.int .i64 r1, .bool r2]) ∧ Drawn0 w w' := by
 have H : (if (a0.size : Int) < 1 then (plaitingref1_Num.j0 k a0 true) else (plaitingref1_Num.j0 k a0 (decide ((a0.size : Int) > 62)))) = some (r1, r2) := h
 clear h
 have HC2 := Aside0.mk H
 clear H
 go_enter Try.func82, Try.ntmps82
 go_upto_region 1 with (fail)
 go_cut [13] (fun v13 wc => ∃ (kq : Nat) (x13_1 : Bool), v13 = .bool x13_1 ∧ Aside0 (plaitingref1_Num.j0 kq a0 x13_1 = some (r1, r2)) ∧ Aside0 (kq ≤ k) ∧ Drawn0 w wc)
 case first =>
  have H := HC2.out
  clear HC2
  by_cases c3 : (a0.size : Int) < 1
  ·
   rw [if_pos c3] at H
   have c3b0 : decide ((a0.size : Int) < 1) = true := decide_eq_true c3
   have c3b1 : decide (a0.size < 1) = true := decide_eq_true (by omega)
   clear c3
   (first | rw [c3b0] | (simp only [i64_w, i32_w]; rw [c3b0]) | skip)
   have H' := Aside0.mk H
   clear H
   go_wp2
   go_meet
   case rel => exact ⟨_, (true), (by first | rfl | (simp; done) | (simp [*]; done)), H', ⟨by first | omega | exact Nat.le_refl _⟩, by repeat (first | exact Drawn0.refl _ | apply Drawn0.step)⟩
  ·
   rw [if_neg c3] at H
   have c3b0 : decide ((a0.size : Int) < 1) = false := decide_eq_false c3
   have c3b1 : decide (a0.size < 1) = false := decide_eq_false (by omega)
   clear c3
   (first | rw [c3b0] | (simp only [i64_w, i32_w]; rw [c3b0]) | skip)
   have H' := Aside0.mk H
   clear H
   go_wp2
   go_meet
   case rel => exact ⟨_, (decide ((a0.size : Int) > 62)), (by first | rfl | (simp; done) | (simp [*]; done)), H', ⟨by first | omega | exact Nat.le_refl _⟩, by repeat (first | exact Drawn0.refl _ | apply Drawn0.step)⟩
 case rest =>
  clear HC2
  try clear p2
  try clear c3
  try clear c3b0
  try clear c3b1
  obtain ⟨kq, x13_1, rfl, HA, HJ1, ⟨mc1, rfl⟩⟩ := hcut
  cases kq with
  | zero => exact absurd HA.out (by simp [plaitingref1_Num.j0])
  | succ kj1 =>
   have H := HA.out
   clear HA
   simp only [plaitingref1_Num.j0] at H
   by_cases c4 : x13_1 = true
   ·
    subst c4
    have H1 : (some (0, false)) = some (r1, r2) := by rw [if_pos rfl] at H; exact H
    clear H
    have H := H1
    clear H1
    simp only [Option.some.injEq, Prod.mk.injEq] at H
    obtain ⟨rfl, rfl⟩ := H
    go_wp2
    go_ret2
    exact ⟨by first | rfl | (simp; done) | (simp [*]; done), by repeat (first | exact Drawn0.refl _ | apply Drawn0.step)⟩
   ·
    replace c4 := Bool.eq_false_iff.mpr c4
    subst c4
    have H1 : (plaitingref1_Num.l0 kj1 a0 0 0) = some (r1, r2) := by rw [if_neg (show ¬ (false = true) by decide)] at H; exact H
    clear H
    have H := H1
    clear H1
    have H' := Aside0.mk H
    clear H
    go_wp2
    go_loopg [4, 5] kj1 (fun kq v4 v5 w' => ∃ (x4_2 : Int) (x5_2 : Int), v4 = .int .i64 x4_2 ∧ v5 = .int .i64 x5_2 ∧ Aside0 (plaitingref1_Num.l0 kq a0 x4_2 x5_2 = some (r1, r2)) ∧ Aside0 (kq ≤ kj1) ∧ Drawn0 w w')
    case atStart => exact ⟨(0), (0), (by first | rfl | (simp; done) | (simp [*]; done)), (by first | rfl | (simp; done) | (simp [*]; done)), H', ⟨Nat.le_refl _⟩, by repeat (first | exact Drawn0.refl _ | apply Drawn0.step)⟩
    case round =>
     clear H'
     try clear c1
     try clear p2
     try clear c3
     try clear c3b0
     try clear c3b1
     try clear c4
     try clear p2
     obtain ⟨x4_2, x5_2, rfl, rfl, HA, HK2, ⟨m2, rfl⟩⟩ := hrel
     cases gk with
     | zero => exact absurd HA.out (by simp [plaitingref1_Num.l0])
     | succ k2 =>
      have H := HA.out
      clear HA
      simp only [plaitingref1_Num.l0] at H
      by_cases c5 : x5_2 < (a0.size : Int)
      ·
       rw [if_pos c5] at H
       have c5b0 : decide (x5_2 < (a0.size : Int)) = true := decide_eq_true c5
       clear c5
       have HC6 := Aside0.mk H
       clear H
       go_upto_region 7 with (fail)
       go_cut [29] (fun v29 wc => ∃ (kq : Nat) (x29_5 : Bool), v29 = .bool x29_5 ∧ Aside0 (plaitingref1_Num.j2 kq a0 x4_2 x5_2 x29_5 = some (r1, r2)) ∧ Aside0 (kq ≤ k2) ∧ Drawn0 w wc)
       case first =>
        have H := HC6.out
        clear HC6
        by_cases c7 : 0 ≤ x5_2
        ·
         rw [if_pos c7] at H
         have c7b0 : decide (0 ≤ x5_2) = true := decide_eq_true c7
         clear c7
         (first | rw [c7b0] | (simp only [i64_w, i32_w]; rw [c7b0]) | skip)
         by_cases c9 : (bt a0 x5_2) = 48
         ·
          rw [if_pos c9] at H
          have c9b0 : ((bt a0 x5_2) == 48) = true := beq_iff_eq.mpr c9
          have c9b1 : ((bt a0 x5_2) != 48) = false := bne_eq_false_iff_eq.mpr c9
          clear c9
          have H' := Aside0.mk H
          clear H
          have p8 : 0 ≤ (x5_2 : Int) := of_decide_eq_true (by first | (with_reducible assumption) | assumption)
          have q8 : x5_2 < (a0.size : Int) := of_decide_eq_true (by first | (with_reducible assumption) | assumption)
          have hx8 := bt_at a0 x5_2
          replace p8 := eq_true p8
          replace q8 := eq_true q8
          go_wp2
          go_meet
          case rel => exact ⟨_, (false), (by first | rfl | (simp; done) | (simp [*]; done)), H', ⟨by have := HJ1.out; have := HK2.out; first | omega | exact Nat.le_refl _⟩, by repeat (first | exact Drawn0.refl _ | apply Drawn0.step)⟩
         ·
          rw [if_neg c9] at H
          have c9b0 : ((bt a0 x5_2) == 48) = false := beq_eq_false_iff_ne.mpr c9
          have c9b1 : ((bt a0 x5_2) != 48) = true := bne_iff_ne.mpr c9
          have H' := Aside0.mk H
          clear H
          have p8 : 0 ≤ (x5_2 : Int) := of_decide_eq_true (by first | (with_reducible assumption) | assumption)
          have q8 : x5_2 < (a0.size : Int) := of_decide_eq_true (by first | (with_reducible assumption) | assumption)
          have hx8 := bt_at a0 x5_2
          replace p8 := eq_true p8
          replace q8 := eq_true q8
          have p10 : 0 ≤ (x5_2 : Int) := of_decide_eq_true (by first | (with_reducible assumption) | assumption)
          have q10 : x5_2 < (a0.size : Int) := of_decide_eq_true (by first | (with_reducible assumption) | assumption)
          have hx10 := bt_at a0 x5_2
          replace p10 := eq_true p10
          replace q10 := eq_true q10
          go_wp2
          go_meet
          case rel => exact ⟨_, (((bt a0 x5_2) != 49)), (by first | rfl | (simp; done) | (simp [*]; done)), H', ⟨by have := HJ1.out; have := HK2.out; first | omega | exact Nat.le_refl _⟩, by repeat (first | exact Drawn0.refl _ | apply Drawn0.step)⟩
        ·
         rw [if_neg c7] at H
         exact absurd H (by simp)
       case rest =>
        clear HC6
        try clear c1
        try clear p1
        try clear q1
        try clear hx1
        try clear p2
        try clear c3
        try clear c3b0
        try clear c3b1
        try clear c4
        try clear c5
        try clear c5b0
        try clear c7
        try clear c7b0
        try clear c8
        try clear p8
        try clear q8
        try clear hx8
        try clear c9
        try clear c9b0
        try clear c9b1
        try clear p10
        try clear q10
        try clear hx10
        try clear p10
        try clear p2
        try clear p8
        try clear q10
        try clear q8
        obtain ⟨kq, x29_5, rfl, HA, HJ5, ⟨mc5, rfl⟩⟩ := hcut
        cases kq with
        | zero => exact absurd HA.out (by simp [plaitingref1_Num.j2])
        | succ kj5 =>
         have H := HA.out
         clear HA
         simp only [plaitingref1_Num.j2] at H
         by_cases c11 : x29_5 = true
         ·
          subst c11
          have H1 : (some (0, false)) = some (r1, r2) := by rw [if_pos rfl] at H; exact H
          clear H
          have H := H1
          clear H1
          simp only [Option.some.injEq, Prod.mk.injEq] at H
          obtain ⟨rfl, rfl⟩ := H
          go_wp2
          go_ret2
          exact ⟨by first | rfl | (simp; done) | (simp [*]; done), by repeat (first | exact Drawn0.refl _ | apply Drawn0.step)⟩
         ·
          replace c11 := Bool.eq_false_iff.mpr c11
          subst c11
          have H1 : (if 0 ≤ x5_2 then (if x5_2 < (a0.size : Int) then (if (bt a0 x5_2) = 49 then (plaitingref1_Num.l0 kj5 a0 (wrap64 ((wrap64 (2 * x4_2)) + 1)) (wrap64 (x5_2 + 1))) else (plaitingref1_Num.l0 kj5 a0 (wrap64 (2 * x4_2)) (wrap64 (x5_2 + 1)))) else (none)) else (none)) = some (r1, r2) := by rw [if_neg (show ¬ (false = true) by decide)] at H; exact H
          clear H
          have H := H1
          clear H1
          by_cases c12 : 0 ≤ x5_2
          ·
           rw [if_pos c12] at H
           have c12b0 : decide (0 ≤ x5_2) = true := decide_eq_true c12
           clear c12
           by_cases c13 : x5_2 < (a0.size : Int)
           ·
            rw [if_pos c13] at H
            have c13b0 : decide (x5_2 < (a0.size : Int)) = true := decide_eq_true c13
            clear c13
            by_cases c15 : (bt a0 x5_2) = 49
            ·
             rw [if_pos c15] at H
             have c15b0 : ((bt a0 x5_2) == 49) = true := beq_iff_eq.mpr c15
             have c15b1 : ((bt a0 x5_2) != 49) = false := bne_eq_false_iff_eq.mpr c15
             clear c15
             have H' := Aside0.mk H
             clear H
             have p14 : 0 ≤ (x5_2 : Int) := of_decide_eq_true (by first | (with_reducible assumption) | assumption)
             have q14 : x5_2 < (a0.size : Int) := of_decide_eq_true (by first | (with_reducible assumption) | assumption)
             have hx14 := bt_at a0 x5_2
             replace p14 := eq_true p14
             replace q14 := eq_true q14
             go_wp2
             go_roundg kj5
             case measure => have := HJ1.out; have := HK2.out; have := HJ5.out; omega
             case rel => exact ⟨(wrap64 ((wrap64 (2 * x4_2)) + 1)), (wrap64 (x5_2 + 1)), (by first | rfl | (simp; done) | (simp [*]; done)), (by first | rfl | (simp; done) | (simp [*]; done)), H', ⟨by have := HJ1.out; have := HK2.out; have := HJ5.out; omega⟩, by repeat (first | exact Drawn0.refl _ | apply Drawn0.step)⟩
            ·
             rw [if_neg c15] at H
             have c15b0 : ((bt a0 x5_2) == 49) = false := beq_eq_false_iff_ne.mpr c15
             have c15b1 : ((bt a0 x5_2) != 49) = true := bne_iff_ne.mpr c15
             have H' := Aside0.mk H
             clear H
             have p14 : 0 ≤ (x5_2 : Int) := of_decide_eq_true (by first | (with_reducible assumption) | assumption)
             have q14 : x5_2 < (a0.size : Int) := of_decide_eq_true (by first | (with_reducible assumption) | assumption)
             have hx14 := bt_at a0 x5_2
             replace p14 := eq_true p14
             replace q14 := eq_true q14
             go_wp2
             go_roundg kj5
             case measure => have := HJ1.out; have := HK2.out; have := HJ5.out; omega
             case rel => exact ⟨(wrap64 (2 * x4_2)), (wrap64 (x5_2 + 1)), (by first | rfl | (simp; done) | (simp [*]; done)), (by first | rfl | (simp; done) | (simp [*]; done)), H', ⟨by have := HJ1.out; have := HK2.out; have := HJ5.out; omega⟩, by repeat (first | exact Drawn0.refl _ | apply Drawn0.step)⟩
           ·
            rw [if_neg c13] at H
            exact absurd H (by simp)
          ·
           rw [if_neg c12] at H
           exact absurd H (by simp)
      ·
       rw [if_neg c5] at H
       have c5b0 : decide (x5_2 < (a0.size : Int)) = false := decide_eq_false c5
       clear c5
       simp only [Option.some.injEq, Prod.mk.injEq] at H
       obtain ⟨rfl, rfl⟩ := H
       go_wp2
       go_ret2
       exact ⟨by first | rfl | (simp; done) | (simp [*]; done), by repeat (first | exact Drawn0.refl _ | apply Drawn0.step)⟩
end Go.Proofs.Ytcpohmfkmgcjkaa.P
