/- Printed by a program of this session (myprint) out of the translation: the functions as plain Lean functions, and that the calls compute them. What counts is Lean's check. -/
import Derived.Test.YtcpohmfkmgcjkaaQArbPairsPx15
import Derived.Test.YtcpohmfkmgcjkaaQArbPairsShort
namespace Go.Proofs.Ytcpohmfkmgcjkaa.P
open Go.RowKit Go.Proofs.YtcpohmfkmgcjkaaW.PrintWords Go.Proofs.YtcpohmfkmgcjkaaW.PrintLast Go.Proofs.YtcpohmfkmgcjkaaW.PrintMore
attribute [local go_sem] max2_int min2_int max_two min_two max_three min_three max_four min_four
set_option linter.unusedVariables false
set_option linter.unusedSimpArgs false
attribute [-simp] ByteArray.size_extract ByteArray.size_append ByteArray.extract_append_extract
attribute [-go_sem] ByteArray.size_append'
def plaitingref2_Sum.l0 : Nat → ByteArray → Int → Int → Option (Int)
 | 0, _, _, _ => none
 | k + 1, x0, x3, x4 => if x4 < (x0.size : Int) then (if 0 ≤ x4 then (if (((x3 / 32768) == 1) != ((bt x0 x4) == 49)) = true then (plaitingref2_Sum.l0 k x0 (Go.bits .xor .i64 (Go.bits .and .i64 (wrap64 (x3 * 2)) 65535) 4129) (wrap64 (x4 + 1))) else (plaitingref2_Sum.l0 k x0 (Go.bits .and .i64 (wrap64 (x3 * 2)) 65535) (wrap64 (x4 + 1)))) else (none)) else (some x3)
def plaitingref2_Sum.f (k : Nat) (a0 : ByteArray) : Option (Int) := plaitingref2_Sum.l0 k a0 65535 0
set_option maxHeartbeats 8000000 in
set_option maxRecDepth 100000 in
theorem plaitingref2_Sum.calls (k : Nat) (a0 : ByteArray) (r : Int) (w : World) (h : plaitingref2_Sum.f k a0 = some r) :
  Calls Try.prog 65 #[.string a0] w fun e w' => e = .returned (.int .i64 r) ∧ Drawn0 w w' := by
 have H : (plaitingref2_Sum.l0 k a0 65535 0) = some r := h
 clear h
 have H' := Aside0.mk H
 clear H
 go_enter Try.func65, Try.ntmps65
 go_wp2
 go_loopg [3, 4] k (fun kq v3 v4 w' => ∃ (x3_1 : Int) (x4_1 : Int), v3 = .int .i64 x3_1 ∧ v4 = .int .i64 x4_1 ∧ Aside0 (plaitingref2_Sum.l0 kq a0 x3_1 x4_1 = some r) ∧ Aside0 (kq ≤ k) ∧ Drawn0 w w')
 case atStart => exact ⟨(65535), (0), (by first | rfl | (simp; done) | (simp [*]; done)), (by first | rfl | (simp; done) | (simp [*]; done)), H', ⟨Nat.le_refl _⟩, by repeat (first | exact Drawn0.refl _ | apply Drawn0.step)⟩
 case round =>
  clear H'
  obtain ⟨x3_1, x4_1, rfl, rfl, HA, HK1, ⟨m1, rfl⟩⟩ := hrel
  cases gk with
  | zero => exact absurd HA.out (by simp [plaitingref2_Sum.l0])
  | succ k1 =>
   have H := HA.out
   clear HA
   simp only [plaitingref2_Sum.l0] at H
   by_cases c2 : x4_1 < (a0.size : Int)
   ·
    rw [if_pos c2] at H
    have c2b0 : decide (x4_1 < (a0.size : Int)) = true := decide_eq_true c2
    clear c2
    by_cases c3 : 0 ≤ x4_1
    ·
     rw [if_pos c3] at H
     have c3b0 : decide (0 ≤ x4_1) = true := decide_eq_true c3
     clear c3
     by_cases c5 : (((x3_1 / 32768) == 1) != ((bt a0 x4_1) == 49)) = true
     ·
      rw [if_pos c5] at H
      have c5b0 : (((x3_1 / 32768) == 1) != ((bt a0 x4_1) == 49)) = true := c5
      (try (have c5b1 : decide (((x3_1 / 32768) == 1) = ((bt a0 x4_1) == 49)) = false := by simpa using c5))
      (try (have c5b2 : (((x3_1 / 32768) == 1) == ((bt a0 x4_1) == 49)) = false := by simpa using c5))
      (try (have c5b3 : ¬ (((x3_1 / 32768) == 1) = ((bt a0 x4_1) == 49)) := by simpa using c5))
      clear c5
      have H' := Aside0.mk H
      clear H
      have p4 : 0 ≤ (x4_1 : Int) := of_decide_eq_true (by first | (with_reducible assumption) | assumption)
      have q4 : x4_1 < (a0.size : Int) := of_decide_eq_true (by first | (with_reducible assumption) | assumption)
      have hx4 := bt_at a0 x4_1
      replace p4 := eq_true p4
      replace q4 := eq_true q4
      go_wp2
      go_roundg k1
      case measure => have := HK1.out; omega
      case rel => exact ⟨(Go.bits .xor .i64 (Go.bits .and .i64 (wrap64 (x3_1 * 2)) 65535) 4129), (wrap64 (x4_1 + 1)), (by first | rfl | (simp; done) | (simp [*]; done)), (by first | rfl | (simp; done) | (simp [*]; done)), H', ⟨by have := HK1.out; omega⟩, by repeat (first | exact Drawn0.refl _ | apply Drawn0.step)⟩
     ·
      rw [if_neg c5] at H
      have c5b0 : (((x3_1 / 32768) == 1) != ((bt a0 x4_1) == 49)) = false := by simpa using c5
      (try (have c5b1 : decide (((x3_1 / 32768) == 1) = ((bt a0 x4_1) == 49)) = true := by simpa using c5))
      (try (have c5b2 : (((x3_1 / 32768) == 1) == ((bt a0 x4_1) == 49)) = true := by simpa using c5))
      clear c5
      have H' := Aside0.mk H
      clear H
      have p4 : 0 ≤ (x4_1 : Int) := of_decide_eq_true (by first | (with_reducible assumption) | assumption)
      have q4 : x4_1 < (a0.size : Int) := of_decide_eq_true (by first | (with_reducible assumption) | assumption)
      have hx4 := bt_at a0 x4_1
      replace p4 := eq_true p4
      replace q4 := eq_true q4
      go_wp2
      go_roundg k1
      case measure => have := HK1.out; omega
      case rel => exact ⟨(Go.bits .and .i64 (wrap64 (x3_1 * 2)) 65535), (wrap64 (x4_1 + 1)), (by first | rfl | (simp; done) | (simp [*]; done)), (by first | rfl | (simp; done) | (simp [*]; done)), H', ⟨by have := HK1.out; omega⟩, by repeat (first | exact Drawn0.refl _ | apply Drawn0.step)⟩
    ·
     rw [if_neg c3] at H
     exact absurd H (by simp)
   ·
    rw [if_neg c2] at H
    have c2b0 : decide (x4_1 < (a0.size : Int)) = false := decide_eq_false c2
    clear c2
    obtain rfl := Option.some.inj H
    go_wp2
    go_ret
    exact ⟨by first | rfl | (simp; done) | (simp [*]; done), by repeat (first | exact Drawn0.refl _ | apply Drawn0.step)⟩
def plaitingref2_Wrap.f (k : Nat) (a0 : ByteArray) : Option (ByteArray) := (plaitingref2_Sum.f k a0).bind fun tAb => ((plaitingref1_Bits.f k tAb 16).bind fun tAa => (if a0.size + tAa.size ≤ 9223372036854775807 then (if (a0 ++ tAa).size + 1 ≤ 9223372036854775807 then (some ((a0 ++ tAa) ++ (⟨#[35]⟩ : ByteArray))) else (none)) else (none)))
set_option maxHeartbeats 8000000 in
set_option maxRecDepth 100000 in
theorem plaitingref2_Wrap.calls (k : Nat) (a0 : ByteArray) (r : ByteArray) (w : World) (h : plaitingref2_Wrap.f k a0 = some r) :
  Calls Try.prog 34 #[.string a0] w fun e w' => e = .returned (.string r) ∧ Drawn0 w w' := by
 have H : ((plaitingref2_Sum.f k a0).bind fun tAb => ((plaitingref1_Bits.f k tAb 16).bind fun tAa => (if a0.size + tAa.size ≤ 9223372036854775807 then (if (a0 ++ tAa).size + 1 ≤ 9223372036854775807 then (some ((a0 ++ tAa) ++ (⟨#[35]⟩ : ByteArray))) else (none)) else (none)))) = some r := h
 clear h
 replace H := Option.bind_eq_some_iff.mp H
 obtain ⟨tAb, A20, H⟩ := H
 try dsimp only at H
 have A2 := Aside0.mk A20
 clear A20
 replace H := Option.bind_eq_some_iff.mp H
 obtain ⟨tAa, A30, H⟩ := H
 try dsimp only at H
 have A3 := Aside0.mk A30
 clear A30
 by_cases c4 : a0.size + tAa.size ≤ 9223372036854775807
 ·
  rw [if_pos c4] at H
  have c4b0 := eq_true c4
  have c4b1 : decide (a0.size + tAa.size ≤ 9223372036854775807) = true := decide_eq_true c4
  try have c4b2 : (9223372036854775807 < a0.size + tAa.size) = False := eq_false (Nat.not_lt.2 c4)
  by_cases c5 : (a0 ++ tAa).size + 1 ≤ 9223372036854775807
  ·
   rw [if_pos c5] at H
   have c5b0 := eq_true c5
   have c5b1 : decide ((a0 ++ tAa).size + 1 ≤ 9223372036854775807) = true := decide_eq_true c5
   try have c5b2 : (9223372036854775807 < (a0 ++ tAa).size + 1) = False := eq_false (Nat.not_lt.2 c5)
   obtain rfl := Option.some.inj H
   go_enter Try.func34, Try.ntmps34
   go_wp2_with (first | ((with_reducible refine gate_callee (f := 65) rfl ?_); refine gL_ 5 Try.func65 #[.string a0] ?_; (with_reducible refine (plaitingref2_Sum.calls k a0 tAb _ A2.out).mono ?_); rintro e w' ⟨rfl, ⟨nd, rfl⟩⟩; refine ⟨_, rfl, ?_⟩) | ((with_reducible refine gate_callee (f := 28) rfl ?_); refine gL_ 6 Try.func28 #[.int .i64 tAb, .int .i64 16] ?_; (with_reducible refine (plaitingref1_Bits.calls k tAb 16 tAa _ A3.out).mono ?_); rintro e w' ⟨rfl, ⟨nd, rfl⟩⟩; refine ⟨_, rfl, ?_⟩))
   go_ret
   exact ⟨by first | rfl | (simp; done) | (simp [*]; done), by repeat (first | exact Drawn0.refl _ | apply Drawn0.step)⟩
  ·
   rw [if_neg c5] at H
   exact absurd H (by simp)
 ·
  rw [if_neg c4] at H
  exact absurd H (by simp)
end Go.Proofs.Ytcpohmfkmgcjkaa.P
