/- Printed by a program of this session (myprint) out of the translation: the functions as plain Lean functions, and that the calls compute them. What counts is Lean's check. -/
import Derived.Test.YtcpohmfkmgcjkaaQFrameTurnPx0
namespace Go.Proofs.Ytcpohmfkmgcjkaa.P
open Go.RowKit Go.Proofs.YtcpohmfkmgcjkaaW.PrintWords Go.Proofs.YtcpohmfkmgcjkaaW.PrintLast Go.Proofs.YtcpohmfkmgcjkaaW.PrintMore
attribute [local go_sem] max2_int min2_int max_two min_two max_three min_three max_four min_four
set_option linter.unusedVariables false
set_option linter.unusedSimpArgs false
attribute [-simp] ByteArray.size_extract ByteArray.size_append ByteArray.extract_append_extract
attribute [-go_sem] ByteArray.size_append'
def plaitingref1_Turn.j0 : Nat → ByteArray → Int → Bool → Option (ByteArray)
 | 0, _, _, _ => none
 | k + 1, x0, x1, x13 => if x13 = true then (some x0) else (if 0 ≤ x1 then (if x1 ≤ (wrap64 (x1 + 1)) then (if (wrap64 (x1 + 1)) ≤ (x0.size : Int) then (if (x0.extract (x1 : Int).toNat ((wrap64 (x1 + 1)) : Int).toNat).toList = ([48] : List UInt8) then (if x1 ≤ (x0.size : Int) then (if (x0.extract 0 (x1 : Int).toNat).size + 1 ≤ 9223372036854775807 then (if 0 ≤ (wrap64 (x1 + 1)) then (if ((x0.extract 0 (x1 : Int).toNat) ++ (⟨#[49]⟩ : ByteArray)).size + (x0.extract ((wrap64 (x1 + 1)) : Int).toNat x0.size).size ≤ 9223372036854775807 then (some (((x0.extract 0 (x1 : Int).toNat) ++ (⟨#[49]⟩ : ByteArray)) ++ (x0.extract ((wrap64 (x1 + 1)) : Int).toNat x0.size))) else (none)) else (none)) else (none)) else (none)) else (if (x0.extract (x1 : Int).toNat ((wrap64 (x1 + 1)) : Int).toNat).toList = ([49] : List UInt8) then (if x1 ≤ (x0.size : Int) then (if (x0.extract 0 (x1 : Int).toNat).size + 1 ≤ 9223372036854775807 then (if 0 ≤ (wrap64 (x1 + 1)) then (if ((x0.extract 0 (x1 : Int).toNat) ++ (⟨#[48]⟩ : ByteArray)).size + (x0.extract ((wrap64 (x1 + 1)) : Int).toNat x0.size).size ≤ 9223372036854775807 then (some (((x0.extract 0 (x1 : Int).toNat) ++ (⟨#[48]⟩ : ByteArray)) ++ (x0.extract ((wrap64 (x1 + 1)) : Int).toNat x0.size))) else (none)) else (none)) else (none)) else (none)) else (if (x0.extract (x1 : Int).toNat ((wrap64 (x1 + 1)) : Int).toNat).toList = ([35] : List UInt8) then (if x1 ≤ (x0.size : Int) then (if (x0.extract 0 (x1 : Int).toNat).size + 1 ≤ 9223372036854775807 then (if 0 ≤ (wrap64 (x1 + 1)) then (if ((x0.extract 0 (x1 : Int).toNat) ++ (⟨#[48]⟩ : ByteArray)).size + (x0.extract ((wrap64 (x1 + 1)) : Int).toNat x0.size).size ≤ 9223372036854775807 then (some (((x0.extract 0 (x1 : Int).toNat) ++ (⟨#[48]⟩ : ByteArray)) ++ (x0.extract ((wrap64 (x1 + 1)) : Int).toNat x0.size))) else (none)) else (none)) else (none)) else (none)) else (if x1 ≤ (x0.size : Int) then (if (x0.extract 0 (x1 : Int).toNat).size + (x0.extract (x1 : Int).toNat ((wrap64 (x1 + 1)) : Int).toNat).size ≤ 9223372036854775807 then (if 0 ≤ (wrap64 (x1 + 1)) then (if ((x0.extract 0 (x1 : Int).toNat) ++ (x0.extract (x1 : Int).toNat ((wrap64 (x1 + 1)) : Int).toNat)).size + (x0.extract ((wrap64 (x1 + 1)) : Int).toNat x0.size).size ≤ 9223372036854775807 then (some (((x0.extract 0 (x1 : Int).toNat) ++ (x0.extract (x1 : Int).toNat ((wrap64 (x1 + 1)) : Int).toNat)) ++ (x0.extract ((wrap64 (x1 + 1)) : Int).toNat x0.size))) else (none)) else (none)) else (none)) else (none))))) else (none)) else (none)) else (none))
def plaitingref1_Turn.f (k : Nat) (a0 : ByteArray) (a1 : Int) : Option (ByteArray) := if a1 < 0 then (plaitingref1_Turn.j0 k a0 a1 true) else (plaitingref1_Turn.j0 k a0 a1 (decide (a1 ≥ (a0.size : Int))))
set_option maxHeartbeats 8000000 in
set_option maxRecDepth 100000 in
theorem plaitingref1_Turn.calls (k : Nat) (a0 : ByteArray) (a1 : Int) (r : ByteArray) (w : World) (h : plaitingref1_Turn.f k a0 a1 = some r) :
  Calls Try.prog 32 #[.string a0, .int .i64 a1] w fun e w' => e = .returned (.string r) ∧ Drawn0 w w' := by
 have H : (if a1 < 0 then (plaitingref1_Turn.j0 k a0 a1 true) else (plaitingref1_Turn.j0 k a0 a1 (decide (a1 ≥ (a0.size : Int))))) = some r := h
 clear h
 have HC3 := Aside0.mk H
 clear H
 go_enter Try.func32, Try.ntmps32
 go_upto_region 1 with (fail)
 repeat (go_quiet (fail); go_upto_region 1 with (fail))
 go_cut [13] (fun v13 wc => ∃ (kq : Nat) (x13_2 : Bool), v13 = .bool x13_2 ∧ Aside0 (plaitingref1_Turn.j0 kq a0 a1 x13_2 = some r) ∧ Aside0 (kq ≤ k) ∧ Drawn0 w wc)
 case first =>
  have H := HC3.out
  clear HC3
  by_cases c4 : a1 < 0
  ·
   rw [if_pos c4] at H
   have c4b0 : decide (a1 < 0) = true := decide_eq_true c4
   clear c4
   (first | rw [c4b0] | (simp only [i64_w, i32_w]; rw [c4b0]) | skip)
   have H' := Aside0.mk H
   clear H
   go_wp2
   repeat (go_quiet (fail); try go_wp2)
   go_meet
   case rel => exact ⟨_, (true), (by first | rfl | (simp; done) | (simp [*]; done)), H', ⟨by first | omega | exact Nat.le_refl _⟩, by repeat (first | exact Drawn0.refl _ | apply Drawn0.step)⟩
  ·
   rw [if_neg c4] at H
   have c4b0 : decide (a1 < 0) = false := decide_eq_false c4
   clear c4
   (first | rw [c4b0] | (simp only [i64_w, i32_w]; rw [c4b0]) | skip)
   have H' := Aside0.mk H
   clear H
   go_wp2
   repeat (go_quiet (fail); try go_wp2)
   go_meet
   case rel => exact ⟨_, (decide (a1 ≥ (a0.size : Int))), (by first | rfl | (simp; done) | (simp [*]; done)), H', ⟨by first | omega | exact Nat.le_refl _⟩, by repeat (first | exact Drawn0.refl _ | apply Drawn0.step)⟩
 case rest =>
  clear HC3
  try clear p2
  try clear c3
  try clear c4
  try clear c4b0
  obtain ⟨kq, x13_2, rfl, HA, HJ2, ⟨mc2, rfl⟩⟩ := hcut
  cases kq with
  | zero => exact absurd HA.out (by simp [plaitingref1_Turn.j0])
  | succ kj2 =>
   have H := HA.out
   clear HA
   simp only [plaitingref1_Turn.j0] at H
   by_cases c5 : x13_2 = true
   ·
    subst c5
    have H1 : (some a0) = some r := by rw [if_pos rfl] at H; exact H
    clear H
    have H := H1
    clear H1
    obtain rfl := Option.some.inj H
    go_wp2
    repeat (go_quiet (fail); try go_wp2)
    go_ret
    exact ⟨by first | rfl | (simp; done) | (simp [*]; done), by repeat (first | exact Drawn0.refl _ | apply Drawn0.step)⟩
   ·
    replace c5 := Bool.eq_false_iff.mpr c5
    subst c5
    have H1 : (if 0 ≤ a1 then (if a1 ≤ (wrap64 (a1 + 1)) then (if (wrap64 (a1 + 1)) ≤ (a0.size : Int) then (if (a0.extract (a1 : Int).toNat ((wrap64 (a1 + 1)) : Int).toNat).toList = ([48] : List UInt8) then (if a1 ≤ (a0.size : Int) then (if (a0.extract 0 (a1 : Int).toNat).size + 1 ≤ 9223372036854775807 then (if 0 ≤ (wrap64 (a1 + 1)) then (if ((a0.extract 0 (a1 : Int).toNat) ++ (⟨#[49]⟩ : ByteArray)).size + (a0.extract ((wrap64 (a1 + 1)) : Int).toNat a0.size).size ≤ 9223372036854775807 then (some (((a0.extract 0 (a1 : Int).toNat) ++ (⟨#[49]⟩ : ByteArray)) ++ (a0.extract ((wrap64 (a1 + 1)) : Int).toNat a0.size))) else (none)) else (none)) else (none)) else (none)) else (if (a0.extract (a1 : Int).toNat ((wrap64 (a1 + 1)) : Int).toNat).toList = ([49] : List UInt8) then (if a1 ≤ (a0.size : Int) then (if (a0.extract 0 (a1 : Int).toNat).size + 1 ≤ 9223372036854775807 then (if 0 ≤ (wrap64 (a1 + 1)) then (if ((a0.extract 0 (a1 : Int).toNat) ++ (⟨#[48]⟩ : ByteArray)).size + (a0.extract ((wrap64 (a1 + 1)) : Int).toNat a0.size).size ≤ 9223372036854775807 then (some (((a0.extract 0 (a1 : Int).toNat) ++ (⟨#[48]⟩ : ByteArray)) ++ (a0.extract ((wrap64 (a1 + 1)) : Int).toNat a0.size))) else (none)) else (none)) else (none)) else (none)) else (if (a0.extract (a1 : Int).toNat ((wrap64 (a1 + 1)) : Int).toNat).toList = ([35] : List UInt8) then (if a1 ≤ (a0.size : Int) then (if (a0.extract 0 (a1 : Int).toNat).size + 1 ≤ 9223372036854775807 then (if 0 ≤ (wrap64 (a1 + 1)) then (if ((a0.extract 0 (a1 : Int).toNat) ++ (⟨#[48]⟩ : ByteArray)).size + (a0.extract ((wrap64 (a1 + 1)) : Int).toNat a0.size).size ≤ 9223372036854775807 then (some (((a0.extract 0 (a1 : Int).toNat) ++ (⟨#[48]⟩ : ByteArray)) ++ (a0.extract ((wrap64 (a1 + 1)) : Int).toNat a0.size))) else (none)) else (none)) else (none)) else (none)) else (if a1 ≤ (a0.size : Int) then (if (a0.extract 0 (a1 : Int).toNat).size + (a0.extract (a1 : Int).toNat ((wrap64 (a1 + 1)) : Int).toNat).size ≤ 9223372036854775807 then (if 0 ≤ (wrap64 (a1 + 1)) then (if ((a0.extract 0 (a1 : Int).toNat) ++ (a0.extract (a1 : Int).toNat ((wrap64 (a1 + 1)) : Int).toNat)).size + (a0.extract ((wrap64 (a1 + 1)) : Int).toNat a0.size).size ≤ 9223372036854775807 then (some (((a0.extract 0 (a1 : Int).toNat) ++ (a0.extract (a1 : Int).toNat ((wrap64 (a1 + 1)) : Int).toNat)) ++ (a0.extract ((wrap64 (a1 + 1)) : Int).toNat a0.size))) else (none)) else (none)) else (none)) else (none))))) else (none)) else (none)) else (none)) = some r := by rw [if_neg (show ¬ (false = true) by decide)] at H; exact H
    clear H
    have H := H1
    clear H1
    by_cases c6 : 0 ≤ a1
    ·
     rw [if_pos c6] at H
     have c6b0 := eq_true c6
     have c6b1 : decide (0 ≤ a1) = true := decide_eq_true c6
     clear c6
     by_cases c7 : a1 ≤ (wrap64 (a1 + 1))
     ·
      rw [if_pos c7] at H
      have c7b0 := eq_true c7
      have c7b1 : decide (a1 ≤ (wrap64 (a1 + 1))) = true := decide_eq_true c7
      by_cases c8 : (wrap64 (a1 + 1)) ≤ (a0.size : Int)
      ·
       rw [if_pos c8] at H
       have c8b0 := eq_true c8
       have c8b1 : decide ((wrap64 (a1 + 1)) ≤ (a0.size : Int)) = true := decide_eq_true c8
       by_cases c9 : (a0.extract (a1 : Int).toNat ((wrap64 (a1 + 1)) : Int).toNat).toList = ([48] : List UInt8)
       ·
        rw [if_pos c9] at H
        have c9b0 : ((a0.extract (a1 : Int).toNat ((wrap64 (a1 + 1)) : Int).toNat).toList == ([48] : List UInt8)) = true := beq_iff_eq.mpr c9
        have c9b1 : ((a0.extract (a1 : Int).toNat ((wrap64 (a1 + 1)) : Int).toNat).toList != ([48] : List UInt8)) = false := bne_eq_false_iff_eq.mpr c9
        clear c9
        have c10b0 := eq_true (of_decide_eq_true (by first | (with_reducible assumption) | assumption) : 0 ≤ a1)
        by_cases c11 : a1 ≤ (a0.size : Int)
        ·
         rw [if_pos c11] at H
         have c11b0 := eq_true c11
         have c11b1 : decide (a1 ≤ (a0.size : Int)) = true := decide_eq_true c11
         clear c11
         by_cases c12 : (a0.extract 0 (a1 : Int).toNat).size + 1 ≤ 9223372036854775807
         ·
          rw [if_pos c12] at H
          have c12b0 := eq_true c12
          have c12b1 : decide ((a0.extract 0 (a1 : Int).toNat).size + 1 ≤ 9223372036854775807) = true := decide_eq_true c12
          try have c12b2 : (9223372036854775807 < (a0.extract 0 (a1 : Int).toNat).size + 1) = False := eq_false (Nat.not_lt.2 c12)
          obtain ⟨ji13, hji13⟩ : ∃ j_ : Int, (wrap64 (a1 + 1)) = j_ := ⟨_, rfl⟩
          replace H : (if 0 ≤ (ji13) then (if ((a0.extract 0 (a1 : Int).toNat) ++ (⟨#[49]⟩ : ByteArray)).size + (a0.extract ((ji13) : Int).toNat a0.size).size ≤ 9223372036854775807 then (some (((a0.extract 0 (a1 : Int).toNat) ++ (⟨#[49]⟩ : ByteArray)) ++ (a0.extract ((ji13) : Int).toNat a0.size))) else (none)) else (none)) = some r := by first | (rw [hji13] at H; exact H) | (simp only [hji13] at H ⊢; exact H)
          (try rw [hji13] at c7b0)
          (try rw [hji13] at c7b1)
          (try rw [hji13] at c7b2)
          (try rw [hji13] at c7)
          (try rw [hji13] at c8b0)
          (try rw [hji13] at c8b1)
          (try rw [hji13] at c8b2)
          (try rw [hji13] at c8)
          (try rw [hji13] at c9b0)
          (try rw [hji13] at c9b1)
          (try rw [hji13] at c9b2)
          have hji13w : (IntKind.i64.wrap (a1 + 1)) = ji13 := (i64_w _).trans hji13
          by_cases c14 : 0 ≤ (ji13)
          ·
           rw [if_pos c14] at H
           have c14b0 := eq_true c14
           have c14b1 : decide (0 ≤ (ji13)) = true := decide_eq_true c14
           clear c14
           have c15b0 := eq_true (of_decide_eq_true (by first | (with_reducible assumption) | assumption) : (ji13) ≤ (a0.size : Int))
           by_cases c16 : ((a0.extract 0 (a1 : Int).toNat) ++ (⟨#[49]⟩ : ByteArray)).size + (a0.extract ((ji13) : Int).toNat a0.size).size ≤ 9223372036854775807
           ·
            rw [if_pos c16] at H
            have c16b0 := eq_true c16
            have c16b1 : decide (((a0.extract 0 (a1 : Int).toNat) ++ (⟨#[49]⟩ : ByteArray)).size + (a0.extract ((ji13) : Int).toNat a0.size).size ≤ 9223372036854775807) = true := decide_eq_true c16
            try have c16b2 : (9223372036854775807 < ((a0.extract 0 (a1 : Int).toNat) ++ (⟨#[49]⟩ : ByteArray)).size + (a0.extract ((ji13) : Int).toNat a0.size).size) = False := eq_false (Nat.not_lt.2 c16)
            obtain rfl := Option.some.inj H
            go_wp2
            repeat (go_quiet (fail); try go_wp2)
            go_ret
            exact ⟨by first | rfl | (simp; done) | (simp only [← hji13] <;> (first | rfl | simp)) | (simp [*]; done), by repeat (first | exact Drawn0.refl _ | apply Drawn0.step)⟩
           ·
            rw [if_neg c16] at H
            exact absurd H (by simp)
          ·
           rw [if_neg c14] at H
           exact absurd H (by simp)
         ·
          rw [if_neg c12] at H
          exact absurd H (by simp)
        ·
         rw [if_neg c11] at H
         exact absurd H (by simp)
       ·
        rw [if_neg c9] at H
        have c9b0 : ((a0.extract (a1 : Int).toNat ((wrap64 (a1 + 1)) : Int).toNat).toList == ([48] : List UInt8)) = false := beq_eq_false_iff_ne.mpr c9
        have c9b1 : ((a0.extract (a1 : Int).toNat ((wrap64 (a1 + 1)) : Int).toNat).toList != ([48] : List UInt8)) = true := bne_iff_ne.mpr c9
        by_cases c17 : (a0.extract (a1 : Int).toNat ((wrap64 (a1 + 1)) : Int).toNat).toList = ([49] : List UInt8)
        ·
         rw [if_pos c17] at H
         have c17b0 : ((a0.extract (a1 : Int).toNat ((wrap64 (a1 + 1)) : Int).toNat).toList == ([49] : List UInt8)) = true := beq_iff_eq.mpr c17
         have c17b1 : ((a0.extract (a1 : Int).toNat ((wrap64 (a1 + 1)) : Int).toNat).toList != ([49] : List UInt8)) = false := bne_eq_false_iff_eq.mpr c17
         clear c17
         have c18b0 := eq_true (of_decide_eq_true (by first | (with_reducible assumption) | assumption) : 0 ≤ a1)
         by_cases c19 : a1 ≤ (a0.size : Int)
         ·
          rw [if_pos c19] at H
          have c19b0 := eq_true c19
          have c19b1 : decide (a1 ≤ (a0.size : Int)) = true := decide_eq_true c19
          clear c19
          by_cases c20 : (a0.extract 0 (a1 : Int).toNat).size + 1 ≤ 9223372036854775807
          ·
           rw [if_pos c20] at H
           have c20b0 := eq_true c20
           have c20b1 : decide ((a0.extract 0 (a1 : Int).toNat).size + 1 ≤ 9223372036854775807) = true := decide_eq_true c20
           try have c20b2 : (9223372036854775807 < (a0.extract 0 (a1 : Int).toNat).size + 1) = False := eq_false (Nat.not_lt.2 c20)
           obtain ⟨ji21, hji21⟩ : ∃ j_ : Int, (wrap64 (a1 + 1)) = j_ := ⟨_, rfl⟩
           replace H : (if 0 ≤ (ji21) then (if ((a0.extract 0 (a1 : Int).toNat) ++ (⟨#[48]⟩ : ByteArray)).size + (a0.extract ((ji21) : Int).toNat a0.size).size ≤ 9223372036854775807 then (some (((a0.extract 0 (a1 : Int).toNat) ++ (⟨#[48]⟩ : ByteArray)) ++ (a0.extract ((ji21) : Int).toNat a0.size))) else (none)) else (none)) = some r := by first | (rw [hji21] at H; exact H) | (simp only [hji21] at H ⊢; exact H)
           (try rw [hji21] at c7b0)
           (try rw [hji21] at c7b1)
           (try rw [hji21] at c7b2)
           (try rw [hji21] at c7)
           (try rw [hji21] at c8b0)
           (try rw [hji21] at c8b1)
           (try rw [hji21] at c8b2)
           (try rw [hji21] at c8)
           (try rw [hji21] at c9b0)
           (try rw [hji21] at c9b1)
           (try rw [hji21] at c9b2)
           (try rw [hji21] at c17b0)
           (try rw [hji21] at c17b1)
           (try rw [hji21] at c17b2)
           have hji21w : (IntKind.i64.wrap (a1 + 1)) = ji21 := (i64_w _).trans hji21
           by_cases c22 : 0 ≤ (ji21)
           ·
            rw [if_pos c22] at H
            have c22b0 := eq_true c22
            have c22b1 : decide (0 ≤ (ji21)) = true := decide_eq_true c22
            clear c22
            have c23b0 := eq_true (of_decide_eq_true (by first | (with_reducible assumption) | assumption) : (ji21) ≤ (a0.size : Int))
            by_cases c24 : ((a0.extract 0 (a1 : Int).toNat) ++ (⟨#[48]⟩ : ByteArray)).size + (a0.extract ((ji21) : Int).toNat a0.size).size ≤ 9223372036854775807
            ·
             rw [if_pos c24] at H
             have c24b0 := eq_true c24
             have c24b1 : decide (((a0.extract 0 (a1 : Int).toNat) ++ (⟨#[48]⟩ : ByteArray)).size + (a0.extract ((ji21) : Int).toNat a0.size).size ≤ 9223372036854775807) = true := decide_eq_true c24
             try have c24b2 : (9223372036854775807 < ((a0.extract 0 (a1 : Int).toNat) ++ (⟨#[48]⟩ : ByteArray)).size + (a0.extract ((ji21) : Int).toNat a0.size).size) = False := eq_false (Nat.not_lt.2 c24)
             obtain rfl := Option.some.inj H
             go_wp2
             repeat (go_quiet (fail); try go_wp2)
             go_ret
             exact ⟨by first | rfl | (simp; done) | (simp only [← hji21] <;> (first | rfl | simp)) | (simp [*]; done), by repeat (first | exact Drawn0.refl _ | apply Drawn0.step)⟩
            ·
             rw [if_neg c24] at H
             exact absurd H (by simp)
           ·
            rw [if_neg c22] at H
            exact absurd H (by simp)
          ·
           rw [if_neg c20] at H
           exact absurd H (by simp)
         ·
          rw [if_neg c19] at H
          exact absurd H (by simp)
        ·
         rw [if_neg c17] at H
         have c17b0 : ((a0.extract (a1 : Int).toNat ((wrap64 (a1 + 1)) : Int).toNat).toList == ([49] : List UInt8)) = false := beq_eq_false_iff_ne.mpr c17
         have c17b1 : ((a0.extract (a1 : Int).toNat ((wrap64 (a1 + 1)) : Int).toNat).toList != ([49] : List UInt8)) = true := bne_iff_ne.mpr c17
         by_cases c25 : (a0.extract (a1 : Int).toNat ((wrap64 (a1 + 1)) : Int).toNat).toList = ([35] : List UInt8)
         ·
          rw [if_pos c25] at H
          have c25b0 : ((a0.extract (a1 : Int).toNat ((wrap64 (a1 + 1)) : Int).toNat).toList == ([35] : List UInt8)) = true := beq_iff_eq.mpr c25
          have c25b1 : ((a0.extract (a1 : Int).toNat ((wrap64 (a1 + 1)) : Int).toNat).toList != ([35] : List UInt8)) = false := bne_eq_false_iff_eq.mpr c25
          clear c25
          have c26b0 := eq_true (of_decide_eq_true (by first | (with_reducible assumption) | assumption) : 0 ≤ a1)
          by_cases c27 : a1 ≤ (a0.size : Int)
          ·
           rw [if_pos c27] at H
           have c27b0 := eq_true c27
           have c27b1 : decide (a1 ≤ (a0.size : Int)) = true := decide_eq_true c27
           clear c27
           by_cases c28 : (a0.extract 0 (a1 : Int).toNat).size + 1 ≤ 9223372036854775807
           ·
            rw [if_pos c28] at H
            have c28b0 := eq_true c28
            have c28b1 : decide ((a0.extract 0 (a1 : Int).toNat).size + 1 ≤ 9223372036854775807) = true := decide_eq_true c28
            try have c28b2 : (9223372036854775807 < (a0.extract 0 (a1 : Int).toNat).size + 1) = False := eq_false (Nat.not_lt.2 c28)
            obtain ⟨ji29, hji29⟩ : ∃ j_ : Int, (wrap64 (a1 + 1)) = j_ := ⟨_, rfl⟩
            replace H : (if 0 ≤ (ji29) then (if ((a0.extract 0 (a1 : Int).toNat) ++ (⟨#[48]⟩ : ByteArray)).size + (a0.extract ((ji29) : Int).toNat a0.size).size ≤ 9223372036854775807 then (some (((a0.extract 0 (a1 : Int).toNat) ++ (⟨#[48]⟩ : ByteArray)) ++ (a0.extract ((ji29) : Int).toNat a0.size))) else (none)) else (none)) = some r := by first | (rw [hji29] at H; exact H) | (simp only [hji29] at H ⊢; exact H)
            (try rw [hji29] at c7b0)
            (try rw [hji29] at c7b1)
            (try rw [hji29] at c7b2)
            (try rw [hji29] at c7)
            (try rw [hji29] at c8b0)
            (try rw [hji29] at c8b1)
            (try rw [hji29] at c8b2)
            (try rw [hji29] at c8)
            (try rw [hji29] at c9b0)
            (try rw [hji29] at c9b1)
            (try rw [hji29] at c9b2)
            (try rw [hji29] at c17b0)
            (try rw [hji29] at c17b1)
            (try rw [hji29] at c17b2)
            (try rw [hji29] at c25b0)
            (try rw [hji29] at c25b1)
            (try rw [hji29] at c25b2)
            have hji29w : (IntKind.i64.wrap (a1 + 1)) = ji29 := (i64_w _).trans hji29
            by_cases c30 : 0 ≤ (ji29)
            ·
             rw [if_pos c30] at H
             have c30b0 := eq_true c30
             have c30b1 : decide (0 ≤ (ji29)) = true := decide_eq_true c30
             clear c30
             have c31b0 := eq_true (of_decide_eq_true (by first | (with_reducible assumption) | assumption) : (ji29) ≤ (a0.size : Int))
             by_cases c32 : ((a0.extract 0 (a1 : Int).toNat) ++ (⟨#[48]⟩ : ByteArray)).size + (a0.extract ((ji29) : Int).toNat a0.size).size ≤ 9223372036854775807
             ·
              rw [if_pos c32] at H
              have c32b0 := eq_true c32
              have c32b1 : decide (((a0.extract 0 (a1 : Int).toNat) ++ (⟨#[48]⟩ : ByteArray)).size + (a0.extract ((ji29) : Int).toNat a0.size).size ≤ 9223372036854775807) = true := decide_eq_true c32
              try have c32b2 : (9223372036854775807 < ((a0.extract 0 (a1 : Int).toNat) ++ (⟨#[48]⟩ : ByteArray)).size + (a0.extract ((ji29) : Int).toNat a0.size).size) = False := eq_false (Nat.not_lt.2 c32)
              obtain rfl := Option.some.inj H
              go_wp2
              repeat (go_quiet (fail); try go_wp2)
              go_ret
              exact ⟨by first | rfl | (simp; done) | (simp only [← hji29] <;> (first | rfl | simp)) | (simp [*]; done), by repeat (first | exact Drawn0.refl _ | apply Drawn0.step)⟩
             ·
              rw [if_neg c32] at H
              exact absurd H (by simp)
            ·
             rw [if_neg c30] at H
             exact absurd H (by simp)
           ·
            rw [if_neg c28] at H
            exact absurd H (by simp)
          ·
           rw [if_neg c27] at H
           exact absurd H (by simp)
         ·
          rw [if_neg c25] at H
          have c25b0 : ((a0.extract (a1 : Int).toNat ((wrap64 (a1 + 1)) : Int).toNat).toList == ([35] : List UInt8)) = false := beq_eq_false_iff_ne.mpr c25
          have c25b1 : ((a0.extract (a1 : Int).toNat ((wrap64 (a1 + 1)) : Int).toNat).toList != ([35] : List UInt8)) = true := bne_iff_ne.mpr c25
          have c33b0 := eq_true (of_decide_eq_true (by first | (with_reducible assumption) | assumption) : 0 ≤ a1)
          by_cases c34 : a1 ≤ (a0.size : Int)
          ·
           rw [if_pos c34] at H
           have c34b0 := eq_true c34
           have c34b1 : decide (a1 ≤ (a0.size : Int)) = true := decide_eq_true c34
           clear c34
           by_cases c35 : (a0.extract 0 (a1 : Int).toNat).size + (a0.extract (a1 : Int).toNat ((wrap64 (a1 + 1)) : Int).toNat).size ≤ 9223372036854775807
           ·
            rw [if_pos c35] at H
            have c35b0 := eq_true c35
            have c35b1 : decide ((a0.extract 0 (a1 : Int).toNat).size + (a0.extract (a1 : Int).toNat ((wrap64 (a1 + 1)) : Int).toNat).size ≤ 9223372036854775807) = true := decide_eq_true c35
            try have c35b2 : (9223372036854775807 < (a0.extract 0 (a1 : Int).toNat).size + (a0.extract (a1 : Int).toNat ((wrap64 (a1 + 1)) : Int).toNat).size) = False := eq_false (Nat.not_lt.2 c35)
            obtain ⟨ji36, hji36⟩ : ∃ j_ : Int, (wrap64 (a1 + 1)) = j_ := ⟨_, rfl⟩
            replace H : (if 0 ≤ (ji36) then (if ((a0.extract 0 (a1 : Int).toNat) ++ (a0.extract (a1 : Int).toNat ((ji36) : Int).toNat)).size + (a0.extract ((ji36) : Int).toNat a0.size).size ≤ 9223372036854775807 then (some (((a0.extract 0 (a1 : Int).toNat) ++ (a0.extract (a1 : Int).toNat ((ji36) : Int).toNat)) ++ (a0.extract ((ji36) : Int).toNat a0.size))) else (none)) else (none)) = some r := by first | (rw [hji36] at H; exact H) | (simp only [hji36] at H ⊢; exact H)
            (try rw [hji36] at c7b0)
            (try rw [hji36] at c7b1)
            (try rw [hji36] at c7b2)
            (try rw [hji36] at c7)
            (try rw [hji36] at c8b0)
            (try rw [hji36] at c8b1)
            (try rw [hji36] at c8b2)
            (try rw [hji36] at c8)
            (try rw [hji36] at c9b0)
            (try rw [hji36] at c9b1)
            (try rw [hji36] at c9b2)
            (try rw [hji36] at c17b0)
            (try rw [hji36] at c17b1)
            (try rw [hji36] at c17b2)
            (try rw [hji36] at c25b0)
            (try rw [hji36] at c25b1)
            (try rw [hji36] at c25b2)
            (try rw [hji36] at c35b0)
            (try rw [hji36] at c35b1)
            (try rw [hji36] at c35b2)
            (try rw [hji36] at c35)
            have hji36w : (IntKind.i64.wrap (a1 + 1)) = ji36 := (i64_w _).trans hji36
            by_cases c37 : 0 ≤ (ji36)
            ·
             rw [if_pos c37] at H
             have c37b0 := eq_true c37
             have c37b1 : decide (0 ≤ (ji36)) = true := decide_eq_true c37
             clear c37
             have c38b0 := eq_true (of_decide_eq_true (by first | (with_reducible assumption) | assumption) : (ji36) ≤ (a0.size : Int))
             by_cases c39 : ((a0.extract 0 (a1 : Int).toNat) ++ (a0.extract (a1 : Int).toNat ((ji36) : Int).toNat)).size + (a0.extract ((ji36) : Int).toNat a0.size).size ≤ 9223372036854775807
             ·
              rw [if_pos c39] at H
              have c39b0 := eq_true c39
              have c39b1 : decide (((a0.extract 0 (a1 : Int).toNat) ++ (a0.extract (a1 : Int).toNat ((ji36) : Int).toNat)).size + (a0.extract ((ji36) : Int).toNat a0.size).size ≤ 9223372036854775807) = true := decide_eq_true c39
              try have c39b2 : (9223372036854775807 < ((a0.extract 0 (a1 : Int).toNat) ++ (a0.extract (a1 : Int).toNat ((ji36) : Int).toNat)).size + (a0.extract ((ji36) : Int).toNat a0.size).size) = False := eq_false (Nat.not_lt.2 c39)
              obtain rfl := Option.some.inj H
              go_wp2
              repeat (go_quiet (fail); try go_wp2)
              go_ret
              exact ⟨by first | rfl | (simp; done) | (simp only [← hji36] <;> (first | rfl | simp)) | (simp [*]; done), by repeat (first | exact Drawn0.refl _ | apply Drawn0.step)⟩
             ·
              rw [if_neg c39] at H
              exact absurd H (by simp)
            ·
             rw [if_neg c37] at H
             exact absurd H (by simp)
           ·
            rw [if_neg c35] at H
            exact absurd H (by simp)
          ·
           rw [if_neg c34] at H
           exact absurd H (by simp)
      ·
       rw [if_neg c8] at H
       exact absurd H (by simp)
     ·
      rw [if_neg c7] at H
      exact absurd H (by simp)
    ·
     rw [if_neg c6] at H
     exact absurd H (by simp)
end Go.Proofs.Ytcpohmfkmgcjkaa.P
