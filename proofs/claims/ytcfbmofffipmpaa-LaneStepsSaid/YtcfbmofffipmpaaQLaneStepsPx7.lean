/- Printed by a program of this session (myprint) out of the translation: the functions as plain Lean functions, and that the calls compute them. What counts is Lean's check. -/
import Derived.Test.YtcfbmofffipmpaaQLaneStepsPx4
import Derived.Test.YtcfbmofffipmpaaQLaneStepsPx5
import Derived.Test.YtcfbmofffipmpaaQLaneStepsPx6
namespace Go.Proofs.Ytcfbmofffipmpaa.P
open Go.RowKit Go.Proofs.YtcfbmofffipmpaaW.PrintWords Go.Proofs.YtcfbmofffipmpaaW.PrintLast Go.Proofs.YtcfbmofffipmpaaW.PrintMore
attribute [local go_sem] max2_int min2_int max_two min_two max_three min_three max_four min_four
set_option linter.unusedVariables false
set_option linter.unusedSimpArgs false
attribute [-simp] ByteArray.size_extract ByteArray.size_append ByteArray.extract_append_extract
attribute [-go_sem] ByteArray.size_append'
mutual
def plaitinglaw7_LaneSteps.l0 : Nat → Bool → List Int → ByteArray → ByteArray → ByteArray → Bool → Int → Bool → Bool → Bool → Bool → Option (Bool)
 | 0, _, _, _, _, _, _, _, _, _, _, _ => none
 | k + 1, x3, x4, x12, x13, x16, x17, x18, xAd000, xAd001, xAb000, xAb001 => if x18 ≤ (mx (x12.size : Int) (x13.size : Int)) then (if x18 < (x12.size : Int) then (if 0 ≤ x18 then (plaitinglaw7_LaneSteps.j1 k x3 x4 x12 x13 x16 x17 x18 (bt x12 x18) 46 xAd000 xAd001 xAb000 xAb001) else (none)) else (plaitinglaw7_LaneSteps.j1 k x3 x4 x12 x13 x16 x17 x18 46 46 xAd000 xAd001 xAb000 xAb001)) else (plaitinglaw7_LaneSteps.l1 k x3 x4 x12 x13 x16 x17 0 xAd000 xAd001)
def plaitinglaw7_LaneSteps.j1 : Nat → Bool → List Int → ByteArray → ByteArray → ByteArray → Bool → Int → Int → Int → Bool → Bool → Bool → Bool → Option (Bool)
 | 0, _, _, _, _, _, _, _, _, _, _, _, _, _ => none
 | k + 1, x3, x4, x12, x13, x16, x17, x18, x19, x20, xAd000, xAd001, xAb000, xAb001 => if x18 < (x13.size : Int) then (if 0 ≤ x18 then (plaitinglaw7_LaneSteps.j2 k x3 x4 x12 x13 x16 x17 x18 x19 (bt x13 x18) xAd000 xAd001 xAb000 xAb001) else (none)) else (plaitinglaw7_LaneSteps.j2 k x3 x4 x12 x13 x16 x17 x18 x19 x20 xAd000 xAd001 xAb000 xAb001)
def plaitinglaw7_LaneSteps.j2 : Nat → Bool → List Int → ByteArray → ByteArray → ByteArray → Bool → Int → Int → Int → Bool → Bool → Bool → Bool → Option (Bool)
 | 0, _, _, _, _, _, _, _, _, _, _, _, _, _ => none
 | k + 1, x3, x4, x12, x13, x16, x17, x18, x19, x20, xAd000, xAd001, xAb000, xAb001 => (lane_Lane_Step.f xAd000 xAd001 x19 x20).bind fun btAb => ((plaitingref7_Lane_Step.f xAb000 xAb001 x19 x20).bind fun btAn => (if btAb.1 = btAn.1 then (if x17 = true then (plaitinglaw7_LaneSteps.l0 k x3 x4 x12 x13 x16 true (wrap64 (x18 + 1)) btAb.2.1 btAb.2.2 btAn.2.1 btAn.2.2) else (if btAb.1 = 46 then (plaitinglaw7_LaneSteps.l0 k x3 x4 x12 x13 x16 (btAb.1 == 46) (wrap64 (x18 + 1)) btAb.2.1 btAb.2.2 btAn.2.1 btAn.2.2) else ((some (([btAb.1] : List Int) : List Int)).bind fun yAm => (if x16.size + (strOfNums yAm).size ≤ 9223372036854775807 then (plaitinglaw7_LaneSteps.l0 k x3 x4 x12 x13 (x16 ++ (strOfNums yAm)) (btAb.1 == 46) (wrap64 (x18 + 1)) btAb.2.1 btAb.2.2 btAn.2.1 btAn.2.2) else (none))))) else (some false)))
def plaitinglaw7_LaneSteps.l1 : Nat → Bool → List Int → ByteArray → ByteArray → ByteArray → Bool → Int → Bool → Bool → Option (Bool)
 | 0, _, _, _, _, _, _, _, _, _ => none
 | k + 1, x3, x4, x12, x13, x16, x17, x22, xAd000, xAd001 => if x22 < (x4.length : Int) then (if 0 ≤ x22 then ((lane_Lane_Step.f xAd000 xAd001 (rd x4 x22) (rd x4 x22)).bind fun btAs => (if btAs.1 = 46 then (plaitinglaw7_LaneSteps.l1 k x3 x4 x12 x13 x16 x17 (wrap64 (x22 + 1)) btAs.2.1 btAs.2.2) else (some false))) else (none)) else (if x17 = true then ((lane_Out.f x3 x12 x13).bind fun tAu => (some (tAu.toList == x16.toList))) else (some false))
end
def plaitinglaw7_LaneSteps.f (k : Nat) (l0 : List Int) (l1 : List Int) (l2 : List Int) (a3 : Bool) (l4 : List Int) : Option (Bool) := (plaitinglaw7_known.f).bind fun tAt => (if tAt = true then (if (l4.length : Int) > 50 then (some true) else ((plaitinglaw1_Text.f k l2).bind fun tAe => ((plaitinglaw1_Text.f k l0).bind fun tAf => (if tAe.size + tAf.size ≤ 9223372036854775807 then ((plaitinglaw1_Text.f k l1).bind fun tAg => (if tAe.size + tAg.size ≤ 9223372036854775807 then ((lane_New.f a3).bind fun btAp => ((plaitingref7_New.f a3).bind fun btAd => (plaitinglaw7_LaneSteps.l0 k a3 l4 (tAe ++ tAf) (tAe ++ tAg) (⟨#[]⟩ : ByteArray) false 0 btAp.1 btAp.2 btAd.1 btAd.2))) else (none))) else (none))))) else (some false))
def plaitinglaw7_LaneSteps.T28 : Bool × List (List Nat × List Nat) := (true, [([], []), ([], []), ([], []), ([1, 2], [1, 2]), ([3], [3]), ([], []), ([], []), ([5, 6], [5, 6]), ([7], [7]), ([0, 4, 8], [0, 4, 8]), ([9], [9])])
def plaitinglaw7_LaneSteps.B28 : List Nat := [0, 0, 0, 6, 14, 0, 0, 96, 224, 511, 1023]
theorem plaitinglaw7_LaneSteps.tab28 : rtab .any (opsOf Try.f3 28) = plaitinglaw7_LaneSteps.T28 := by kernel_rfl
theorem plaitinglaw7_LaneSteps.bits28 : waitsOk plaitinglaw7_LaneSteps.T28.2 plaitinglaw7_LaneSteps.B28 = true := by kernel_rfl
set_option maxHeartbeats 8000000 in
set_option maxRecDepth 100000 in
theorem plaitinglaw7_LaneSteps.calls (k : Nat) (A0 : Option Addr) (c0 : Nat) (l0 : List Int) (A1 : Option Addr) (c1 : Nat) (l1 : List Int) (A2 : Option Addr) (c2 : Nat) (l2 : List Int) (a3 : Bool) (A4 : Option Addr) (c4 : Nat) (l4 : List Int) (r : Bool) (w : World) (hr0 : Kd.C (Kd.int .i64) w A0 l0.length l0) (hc0 : l0.length ≤ c0) (hr1 : Kd.C (Kd.int .i64) w A1 l1.length l1) (hc1 : l1.length ≤ c1) (hr2 : Kd.C (Kd.int .i64) w A2 l2.length l2) (hc2 : l2.length ≤ c2) (hr4 : Kd.C (Kd.int .u8) w A4 l4.length l4) (hc4 : l4.length ≤ c4) (hrt : r = true) (h : plaitinglaw7_LaneSteps.f k l0 l1 l2 a3 l4 = some r) :
  Calls Try.prog 3 #[.slice A0 l0.length c0, .slice A1 l1.length c1, .slice A2 l2.length c2, .bool a3, .slice A4 l4.length c4] w fun e w' => e = .returned (.bool r) ∧ Below w.heap.size w w' := by
 have HRT := Aside0.mk hrt
 clear hrt
 have HR0 := Aside0.mk hr0
 have HC0 := Aside0.mk hc0
 clear hr0 hc0
 have HR1 := Aside0.mk hr1
 have HC1 := Aside0.mk hc1
 clear hr1 hc1
 have HR2 := Aside0.mk hr2
 have HC2 := Aside0.mk hc2
 clear hr2 hc2
 have HR4 := Aside0.mk hr4
 have HC4 := Aside0.mk hc4
 clear hr4 hc4
 have HB := Aside0.mk (Below.refl w.heap.size w)
 have H : ((plaitinglaw7_known.f).bind fun tAt => (if tAt = true then (if (l4.length : Int) > 50 then (some true) else ((plaitinglaw1_Text.f k l2).bind fun tAe => ((plaitinglaw1_Text.f k l0).bind fun tAf => (if tAe.size + tAf.size ≤ 9223372036854775807 then ((plaitinglaw1_Text.f k l1).bind fun tAg => (if tAe.size + tAg.size ≤ 9223372036854775807 then ((lane_New.f a3).bind fun btAp => ((plaitingref7_New.f a3).bind fun btAd => (plaitinglaw7_LaneSteps.l0 k a3 l4 (tAe ++ tAf) (tAe ++ tAg) (⟨#[]⟩ : ByteArray) false 0 btAp.1 btAp.2 btAd.1 btAd.2))) else (none))) else (none))))) else (some false))) = some r := h
 clear h
 replace H := Option.bind_eq_some_iff.mp H
 obtain ⟨tAt, A60, H⟩ := H
 try dsimp only at H
 have A6 := Aside0.mk A60
 clear A60
 by_cases c7 : tAt = true
 rotate_left
 ·
  replace c7 := Bool.eq_false_iff.mpr c7
  subst c7
  have H1 : (some false) = some r := by rw [if_neg (show ¬ (false = true) by decide)] at H; exact H
  clear H
  have H := H1
  clear H1
  exact absurd ((Option.some.inj H).trans HRT.out) (by decide)
 subst c7
 have H1 : (if (l4.length : Int) > 50 then (some true) else ((plaitinglaw1_Text.f k l2).bind fun tAe => ((plaitinglaw1_Text.f k l0).bind fun tAf => (if tAe.size + tAf.size ≤ 9223372036854775807 then ((plaitinglaw1_Text.f k l1).bind fun tAg => (if tAe.size + tAg.size ≤ 9223372036854775807 then ((lane_New.f a3).bind fun btAp => ((plaitingref7_New.f a3).bind fun btAd => (plaitinglaw7_LaneSteps.l0 k a3 l4 (tAe ++ tAf) (tAe ++ tAg) (⟨#[]⟩ : ByteArray) false 0 btAp.1 btAp.2 btAd.1 btAd.2))) else (none))) else (none))))) = some r := by rw [if_pos rfl] at H; exact H
 clear H
 have H := H1
 clear H1
 by_cases c8 : (l4.length : Int) > 50
 ·
  rw [if_pos c8] at H
  have c8b0 : decide (50 < (l4.length : Int)) = true := decide_eq_true c8
  have c8b1 : decide (50 < l4.length) = true := decide_eq_true (by omega)
  clear c8
  obtain rfl := Option.some.inj H
  go_enter Try.func3, Try.ntmps3
  go_wp2_with (first | ((with_reducible refine gate_callee (f := 5) rfl ?_); refine gL_ 23 Try.func5 #[] ?_; (with_reducible refine (plaitinglaw7_known.calls  true _ A6.out).mono ?_); rintro e w9 ⟨rfl, hb⟩; refine ⟨_, rfl, ?_⟩; replace HB := bs_ HB hb; (try clear hb); (try clear hb2); (try clear hk); (try clear hi)))
  go_ret
  exact ⟨by first | rfl | (simp [errW_none, errW_some] <;> rfl) | (simp [*, errW_none, errW_some] <;> rfl), pH_ HB.out⟩
 rw [if_neg c8] at H
 have c8b0 : decide (50 < (l4.length : Int)) = false := decide_eq_false c8
 have c8b1 : decide (50 < l4.length) = false := decide_eq_false (by omega)
 clear c8
 replace H := Option.bind_eq_some_iff.mp H
 obtain ⟨tAe, A100, H⟩ := H
 try dsimp only at H
 have A10 := Aside0.mk A100
 clear A100
 replace H := Option.bind_eq_some_iff.mp H
 obtain ⟨tAf, A110, H⟩ := H
 try dsimp only at H
 have A11 := Aside0.mk A110
 clear A110
 by_cases c12 : tAe.size + tAf.size ≤ 9223372036854775807
 rotate_left
 ·
  rw [if_neg c12] at H
  exact absurd H (by simp)
 rw [if_pos c12] at H
 have c12b0 := eq_true c12
 have c12b1 : decide (tAe.size + tAf.size ≤ 9223372036854775807) = true := decide_eq_true c12
 try have c12b2 : (9223372036854775807 < tAe.size + tAf.size) = False := eq_false (Nat.not_lt.2 c12)
 replace H := Option.bind_eq_some_iff.mp H
 obtain ⟨tAg, A130, H⟩ := H
 try dsimp only at H
 have A13 := Aside0.mk A130
 clear A130
 by_cases c14 : tAe.size + tAg.size ≤ 9223372036854775807
 rotate_left
 ·
  rw [if_neg c14] at H
  exact absurd H (by simp)
 rw [if_pos c14] at H
 have c14b0 := eq_true c14
 have c14b1 : decide (tAe.size + tAg.size ≤ 9223372036854775807) = true := decide_eq_true c14
 try have c14b2 : (9223372036854775807 < tAe.size + tAg.size) = False := eq_false (Nat.not_lt.2 c14)
 replace H := Option.bind_eq_some_iff.mp H
 obtain ⟨⟨tAp, tAv⟩, A150, H⟩ := H
 try dsimp only at H
 have A15 := Aside0.mk A150
 clear A150
 replace H := Option.bind_eq_some_iff.mp H
 obtain ⟨⟨tAd, tAw⟩, A160, H⟩ := H
 try dsimp only at H
 have A16 := Aside0.mk A160
 clear A160
 have H' := Aside0.mk H
 clear H
 go_enter Try.func3, Try.ntmps3
 go_wp2_with (first | ((with_reducible refine gate_callee (f := 5) rfl ?_); refine gL_ 23 Try.func5 #[] ?_; (with_reducible refine (plaitinglaw7_known.calls  true _ A6.out).mono ?_); rintro e w17 ⟨rfl, hb⟩; refine ⟨_, rfl, ?_⟩; replace HB := bs_ HB hb; (try clear hb); (try clear hb2); (try clear hk); (try clear hi)) | ((with_reducible refine gate_callee (f := 6) rfl ?_); refine gL_ 29 Try.func6 #[.slice A2 l2.length c2] ?_; (with_reducible refine (plaitinglaw1_Text.calls k _ _ l2 tAe _ ?side1 ?side2 A10.out).mono ?_); (case side1 => exact cC_ (Kd.C_below HR2.out HB.out)); (case side2 => exact HC2.out); rintro e w18 ⟨rfl, hb⟩; refine ⟨_, rfl, ?_⟩; replace HB := bs_ HB hb; (try clear hb); (try clear hb2); (try clear hk); (try clear hi)) | ((with_reducible refine gate_callee (f := 6) rfl ?_); refine gL_ 32 Try.func6 #[.slice A0 l0.length c0] ?_; (with_reducible refine (plaitinglaw1_Text.calls k _ _ l0 tAf _ ?side1 ?side2 A11.out).mono ?_); (case side1 => exact cC_ (Kd.C_below HR0.out HB.out)); (case side2 => exact HC0.out); rintro e w19 ⟨rfl, hb⟩; refine ⟨_, rfl, ?_⟩; replace HB := bs_ HB hb; (try clear hb); (try clear hb2); (try clear hk); (try clear hi)) | ((with_reducible refine gate_callee (f := 6) rfl ?_); refine gL_ 36 Try.func6 #[.slice A1 l1.length c1] ?_; (with_reducible refine (plaitinglaw1_Text.calls k _ _ l1 tAg _ ?side1 ?side2 A13.out).mono ?_); (case side1 => exact cC_ (Kd.C_below HR1.out HB.out)); (case side2 => exact HC1.out); rintro e w20 ⟨rfl, hb⟩; refine ⟨_, rfl, ?_⟩; replace HB := bs_ HB hb; (try clear hb); (try clear hb2); (try clear hk); (try clear hi)) | ((with_reducible refine gate_callee (f := 7) rfl ?_); refine gL_ 39 Try.func7 #[.bool a3] ?_; (with_reducible refine (lane_New.calls a3 tAp tAv w _ ?side1 A15.out).mono ?_); (case side1 => repeat (first | (with_reducible first | exact HB.out | apply below_alloc | apply pw_below_drewN | apply below_drew1) | exact HB.out)); rintro e w21 ⟨gAa, rfl, hi, hb, hb2⟩; refine ⟨_, rfl, ?_⟩; have HIAa := Aside0.mk (hi); replace HB := Aside0.mk (hb); (try clear hb); (try clear hb2); (try clear hk); (try clear hi); (try clear hi0_)) | ((with_reducible refine gate_callee (f := 8) rfl ?_); refine gL_ 41 Try.func8 #[.bool a3] ?_; (with_reducible refine (plaitingref7_New.calls a3 tAd tAw w _ ?side1 A16.out).mono ?_); (case side1 => repeat (first | (with_reducible first | exact HB.out | apply below_alloc | apply pw_below_drewN | apply below_drew1 | refine below_set ?_ (IsS38.ge HIAa.out)) | exact HB.out)); rintro e w22 ⟨gAc, rfl, hi, hb, hb2⟩; refine ⟨_, rfl, ?_⟩; have HIAc := Aside0.mk (hi); replace HIAa := Aside0.mk (IsS38.below (by repeat (first | (with_reducible first | exact HIAa.out | apply IsS38.alloc | apply IsS38.drewN | apply IsS38.drew | apply IsS38.set_0 | apply IsS38.set_1) | exact HIAa.out)) hb2); replace HB := Aside0.mk (hb); (try clear hb); (try clear hb2); (try clear hk); (try clear hi); (try clear hi0_)))
 go_loopg [16, 17, 18] k (fun kq v16 v17 v18 w' => ∃ (x16_1 : ByteArray) (x17_1 : Bool) (x18_1 : Int) (x6108000_1 : Bool) (x6108001_1 : Bool) (x6111000_1 : Bool) (x6111001_1 : Bool), v16 = .string x16_1 ∧ v17 = .bool x17_1 ∧ v18 = .int .i64 x18_1 ∧ Aside0 (plaitinglaw7_LaneSteps.l0 kq a3 l4 (tAe ++ tAf) (tAe ++ tAg) x16_1 x17_1 x18_1 x6108000_1 x6108001_1 x6111000_1 x6111001_1 = some r) ∧ Aside0 (kq ≤ k) ∧ Aside0 (IsS38 w w' gAa x6108000_1 x6108001_1) ∧ Aside0 (IsS40 w w' gAc x6111000_1 x6111001_1) ∧ Aside0 (Below w.heap.size w w'))
 case atStart => exact ⟨((⟨#[]⟩ : ByteArray)), (false), (0), (tAp), (tAv), (tAd), (tAw), (by first | rfl | (simp; done) | (simp [*]; done)), (by first | rfl | (simp; done) | (simp [*]; done)), (by first | rfl | (simp; done) | (simp [*]; done)), H', ⟨Nat.le_refl _⟩, ⟨by repeat (first | (with_reducible first | exact HIAa.out | apply IsS38.alloc | apply IsS38.drewN | apply IsS38.drew | apply IsS38.set_0 | apply IsS38.set_1) | exact HIAa.out)⟩, ⟨by repeat (first | (with_reducible first | exact HIAc.out | apply IsS40.alloc | apply IsS40.drewN | apply IsS40.drew | apply IsS40.set_0 | apply IsS40.set_1) | exact HIAc.out)⟩, ⟨by repeat (first | (with_reducible first | exact HB.out | apply below_alloc | apply pw_below_drewN | apply below_drew1 | refine below_set ?_ (IsS38.ge HIAa.out) | refine below_set ?_ (IsS40.ge HIAc.out)) | exact HB.out)⟩⟩
 case round =>
  clear H'
  try clear c1
  try clear c2
  try clear p2
  try clear c3
  try clear c4
  try clear c5
  try clear c6
  try clear c7
  try clear c8
  try clear c8b0
  try clear c8b1
  try clear c12
  try clear c12b0
  try clear c12b1
  try clear c12b2
  try clear c14
  try clear c14b0
  try clear c14b1
  try clear c14b2
  obtain ⟨x16_1, x17_1, x18_1, x6108000_1, x6108001_1, x6111000_1, x6111001_1, rfl, rfl, rfl, HA, HK1, HIAa, HIAc, HB⟩ := hrel
  cases gk with
  | zero => exact absurd HA.out (by simp [plaitinglaw7_LaneSteps.l0])
  | succ k1 =>
   have H := HA.out
   clear HA
   simp only [plaitinglaw7_LaneSteps.l0] at H
   obtain ⟨ji23, hji23⟩ : ∃ j_ : Int, (mx ((tAe ++ tAf).size : Int) ((tAe ++ tAg).size : Int)) = j_ := ⟨_, rfl⟩
   replace H : (if x18_1 ≤ (ji23) then (if x18_1 < ((tAe ++ tAf).size : Int) then (if 0 ≤ x18_1 then (plaitinglaw7_LaneSteps.j1 k1 a3 l4 (tAe ++ tAf) (tAe ++ tAg) x16_1 x17_1 x18_1 (bt (tAe ++ tAf) x18_1) 46 x6108000_1 x6108001_1 x6111000_1 x6111001_1) else (none)) else (plaitinglaw7_LaneSteps.j1 k1 a3 l4 (tAe ++ tAf) (tAe ++ tAg) x16_1 x17_1 x18_1 46 46 x6108000_1 x6108001_1 x6111000_1 x6111001_1)) else (plaitinglaw7_LaneSteps.l1 k1 a3 l4 (tAe ++ tAf) (tAe ++ tAg) x16_1 x17_1 0 x6108000_1 x6108001_1)) = some r := by first | (rw [hji23] at H; exact H) | (simp only [hji23] at H ⊢; exact H)
   have hji23_ : (if ((tAe ++ tAf).size : Int) < ((tAe ++ tAg).size : Int) then ((tAe ++ tAg).size : Int) else ((tAe ++ tAf).size : Int)) = ji23 := hji23
   have hji23n := hji23_
   try simp only [Int.ofNat_lt] at hji23n
   by_cases c24 : x18_1 ≤ (ji23)
   ·
    rw [if_pos c24] at H
    have c24b0 : decide (x18_1 ≤ (ji23)) = true := decide_eq_true c24
    clear c24
    have HC25 := Aside0.mk H
    clear H
    go_upto_if 56 with (fail)
    go_cut [19] (fun v19 wc => ∃ (kq : Nat) (x19_24 : Int), v19 = .int .u8 x19_24 ∧ Aside0 (plaitinglaw7_LaneSteps.j1 kq a3 l4 (tAe ++ tAf) (tAe ++ tAg) x16_1 x17_1 x18_1 x19_24 46 x6108000_1 x6108001_1 x6111000_1 x6111001_1 = some r) ∧ Aside0 (kq ≤ k1) ∧ Aside0 (IsS38 w wc gAa x6108000_1 x6108001_1) ∧ Aside0 (IsS40 w wc gAc x6111000_1 x6111001_1) ∧ Aside0 (Below w.heap.size w wc))
    case first =>
     have H := HC25.out
     clear HC25
     by_cases c26 : x18_1 < ((tAe ++ tAf).size : Int)
     rotate_left
     ·
      rw [if_neg c26] at H
      have c26b0 : decide (x18_1 < ((tAe ++ tAf).size : Int)) = false := decide_eq_false c26
      clear c26
      (first | rw [c26b0] | (simp only [i64_w, i32_w]; rw [c26b0]) | skip)
      have H' := Aside0.mk H
      clear H
      go_wp2
      go_meet
      case rel => exact ⟨_, (46), (by first | rfl | (simp; done) | (simp [*]; done)), H', ⟨by have := HK1.out; first | omega | exact Nat.le_refl _⟩, ⟨by repeat (first | (with_reducible first | exact HIAa.out | apply IsS38.alloc | apply IsS38.drewN | apply IsS38.drew | apply IsS38.set_0 | apply IsS38.set_1) | exact HIAa.out)⟩, ⟨by repeat (first | (with_reducible first | exact HIAc.out | apply IsS40.alloc | apply IsS40.drewN | apply IsS40.drew | apply IsS40.set_0 | apply IsS40.set_1) | exact HIAc.out)⟩, ⟨by repeat (first | (with_reducible first | exact HB.out | apply below_alloc | apply pw_below_drewN | apply below_drew1 | refine below_set ?_ (IsS38.ge HIAa.out) | refine below_set ?_ (IsS40.ge HIAc.out)) | exact HB.out)⟩⟩
     rw [if_pos c26] at H
     have c26b0 : decide (x18_1 < ((tAe ++ tAf).size : Int)) = true := decide_eq_true c26
     clear c26
     (first | rw [c26b0] | (simp only [i64_w, i32_w]; rw [c26b0]) | skip)
     by_cases c27 : 0 ≤ x18_1
     ·
      rw [if_pos c27] at H
      have c27b0 : decide (0 ≤ x18_1) = true := decide_eq_true c27
      clear c27
      have H' := Aside0.mk H
      clear H
      have p28 : 0 ≤ (x18_1 : Int) := of_decide_eq_true (by first | (with_reducible assumption) | assumption)
      have q28 : x18_1 < ((tAe ++ tAf).size : Int) := of_decide_eq_true (by first | (with_reducible assumption) | assumption)
      have hx28 := bt_at (tAe ++ tAf) x18_1
      replace p28 := eq_true p28
      replace q28 := eq_true q28
      go_wp2
      go_meet
      case rel => exact ⟨_, (bt (tAe ++ tAf) x18_1), (by first | rfl | (simp; done) | (simp [*]; done)), H', ⟨by have := HK1.out; first | omega | exact Nat.le_refl _⟩, ⟨by repeat (first | (with_reducible first | exact HIAa.out | apply IsS38.alloc | apply IsS38.drewN | apply IsS38.drew | apply IsS38.set_0 | apply IsS38.set_1) | exact HIAa.out)⟩, ⟨by repeat (first | (with_reducible first | exact HIAc.out | apply IsS40.alloc | apply IsS40.drewN | apply IsS40.drew | apply IsS40.set_0 | apply IsS40.set_1) | exact HIAc.out)⟩, ⟨by repeat (first | (with_reducible first | exact HB.out | apply below_alloc | apply pw_below_drewN | apply below_drew1 | refine below_set ?_ (IsS38.ge HIAa.out) | refine below_set ?_ (IsS40.ge HIAc.out)) | exact HB.out)⟩⟩
     rw [if_neg c27] at H
     exact absurd H (by simp)
    case rest =>
     clear HC25
     try clear c1
     try clear c2
     try clear p2
     try clear q2
     try clear hx2
     try clear c3
     try clear c4
     try clear c5
     try clear c6
     try clear c7
     try clear c8
     try clear c8b0
     try clear c8b1
     try clear c12
     try clear c12b0
     try clear c12b1
     try clear c12b2
     try clear c14
     try clear c14b0
     try clear c14b1
     try clear c14b2
     try clear c24
     try clear c24b0
     try clear c26
     try clear c26b0
     try clear c27
     try clear c27b0
     try clear p28
     try clear q28
     try clear hx28
     try clear p2
     try clear p28
     try clear q28
     obtain ⟨kq, x19_24, rfl, HA, HJ24, HIAa, HIAc, HB⟩ := hcut
     cases kq with
     | zero => exact absurd HA.out (by simp [plaitinglaw7_LaneSteps.j1])
     | succ kj24 =>
      have H := HA.out
      clear HA
      simp only [plaitinglaw7_LaneSteps.j1] at H
      have HC29 := Aside0.mk H
      clear H
      go_upto_if 63 with (fail)
      go_cut [20] (fun v20 wc => ∃ (kq : Nat) (x20_28 : Int), v20 = .int .u8 x20_28 ∧ Aside0 (plaitinglaw7_LaneSteps.j2 kq a3 l4 (tAe ++ tAf) (tAe ++ tAg) x16_1 x17_1 x18_1 x19_24 x20_28 x6108000_1 x6108001_1 x6111000_1 x6111001_1 = some r) ∧ Aside0 (kq ≤ kj24) ∧ Aside0 (IsS38 w wc gAa x6108000_1 x6108001_1) ∧ Aside0 (IsS40 w wc gAc x6111000_1 x6111001_1) ∧ Aside0 (Below w.heap.size w wc))
      case first =>
       have H := HC29.out
       clear HC29
       by_cases c30 : x18_1 < ((tAe ++ tAg).size : Int)
       rotate_left
       ·
        rw [if_neg c30] at H
        have c30b0 : decide (x18_1 < ((tAe ++ tAg).size : Int)) = false := decide_eq_false c30
        clear c30
        (first | rw [c30b0] | (simp only [i64_w, i32_w]; rw [c30b0]) | skip)
        have H' := Aside0.mk H
        clear H
        go_wp2
        go_meet
        case rel => exact ⟨_, (46), (by first | rfl | (simp; done) | (simp [*]; done)), H', ⟨by have := HK1.out; have := HJ24.out; first | omega | exact Nat.le_refl _⟩, ⟨by repeat (first | (with_reducible first | exact HIAa.out | apply IsS38.alloc | apply IsS38.drewN | apply IsS38.drew | apply IsS38.set_0 | apply IsS38.set_1) | exact HIAa.out)⟩, ⟨by repeat (first | (with_reducible first | exact HIAc.out | apply IsS40.alloc | apply IsS40.drewN | apply IsS40.drew | apply IsS40.set_0 | apply IsS40.set_1) | exact HIAc.out)⟩, ⟨by repeat (first | (with_reducible first | exact HB.out | apply below_alloc | apply pw_below_drewN | apply below_drew1 | refine below_set ?_ (IsS38.ge HIAa.out) | refine below_set ?_ (IsS40.ge HIAc.out)) | exact HB.out)⟩⟩
       rw [if_pos c30] at H
       have c30b0 : decide (x18_1 < ((tAe ++ tAg).size : Int)) = true := decide_eq_true c30
       clear c30
       (first | rw [c30b0] | (simp only [i64_w, i32_w]; rw [c30b0]) | skip)
       by_cases c31 : 0 ≤ x18_1
       ·
        rw [if_pos c31] at H
        have c31b0 : decide (0 ≤ x18_1) = true := decide_eq_true c31
        clear c31
        have H' := Aside0.mk H
        clear H
        have p32 : 0 ≤ (x18_1 : Int) := of_decide_eq_true (by first | (with_reducible assumption) | assumption)
        have q32 : x18_1 < ((tAe ++ tAg).size : Int) := of_decide_eq_true (by first | (with_reducible assumption) | assumption)
        have hx32 := bt_at (tAe ++ tAg) x18_1
        replace p32 := eq_true p32
        replace q32 := eq_true q32
        go_wp2
        go_meet
        case rel => exact ⟨_, (bt (tAe ++ tAg) x18_1), (by first | rfl | (simp; done) | (simp [*]; done)), H', ⟨by have := HK1.out; have := HJ24.out; first | omega | exact Nat.le_refl _⟩, ⟨by repeat (first | (with_reducible first | exact HIAa.out | apply IsS38.alloc | apply IsS38.drewN | apply IsS38.drew | apply IsS38.set_0 | apply IsS38.set_1) | exact HIAa.out)⟩, ⟨by repeat (first | (with_reducible first | exact HIAc.out | apply IsS40.alloc | apply IsS40.drewN | apply IsS40.drew | apply IsS40.set_0 | apply IsS40.set_1) | exact HIAc.out)⟩, ⟨by repeat (first | (with_reducible first | exact HB.out | apply below_alloc | apply pw_below_drewN | apply below_drew1 | refine below_set ?_ (IsS38.ge HIAa.out) | refine below_set ?_ (IsS40.ge HIAc.out)) | exact HB.out)⟩⟩
       rw [if_neg c31] at H
       exact absurd H (by simp)
      case rest =>
       clear HC29
       try clear c1
       try clear c2
       try clear p2
       try clear q2
       try clear hx2
       try clear c3
       try clear p3
       try clear q3
       try clear hx3
       try clear c4
       try clear c5
       try clear c6
       try clear c7
       try clear c8
       try clear c8b0
       try clear c8b1
       try clear c12
       try clear c12b0
       try clear c12b1
       try clear c12b2
       try clear c14
       try clear c14b0
       try clear c14b1
       try clear c14b2
       try clear c24
       try clear c24b0
       try clear c26
       try clear c26b0
       try clear c27
       try clear c27b0
       try clear p28
       try clear q28
       try clear hx28
       try clear c30
       try clear c30b0
       try clear c31
       try clear c31b0
       try clear p32
       try clear q32
       try clear hx32
       try clear p2
       try clear p28
       try clear p32
       try clear q2
       try clear q28
       try clear q32
       obtain ⟨kq, x20_28, rfl, HA, HJ28, HIAa, HIAc, HB⟩ := hcut
       cases kq with
       | zero => exact absurd HA.out (by simp [plaitinglaw7_LaneSteps.j2])
       | succ kj28 =>
        have H := HA.out
        clear HA
        simp only [plaitinglaw7_LaneSteps.j2] at H
        replace H := Option.bind_eq_some_iff.mp H
        obtain ⟨⟨tAb, tAi, tAj⟩, A330, H⟩ := H
        try dsimp only at H
        have A33 := Aside0.mk A330
        clear A330
        replace H := Option.bind_eq_some_iff.mp H
        obtain ⟨⟨tAn, tAq, tAr⟩, A340, H⟩ := H
        try dsimp only at H
        have A34 := Aside0.mk A340
        clear A340
        by_cases c35 : tAb = tAn
        rotate_left
        ·
         rw [if_neg c35] at H
         have c35b0 : (tAb == tAn) = false := beq_eq_false_iff_ne.mpr c35
         have c35b1 : (tAb != tAn) = true := bne_iff_ne.mpr c35
         exact absurd ((Option.some.inj H).trans HRT.out) (by decide)
        rw [if_pos c35] at H
        have c35b0 : (tAb == tAn) = true := beq_iff_eq.mpr c35
        have c35b1 : (tAb != tAn) = false := bne_eq_false_iff_eq.mpr c35
        clear c35
        by_cases c36 : x17_1 = true
        ·
         subst c36
         have H1 : (plaitinglaw7_LaneSteps.l0 kj28 a3 l4 (tAe ++ tAf) (tAe ++ tAg) x16_1 true (wrap64 (x18_1 + 1)) tAi tAj tAq tAr) = some r := by rw [if_pos rfl] at H; exact H
         clear H
         have H := H1
         clear H1
         have H' := Aside0.mk H
         clear H
         go_wp2_with (first | ((with_reducible refine gate_callee (f := 9) rfl ?_); refine gL_ 70 Try.func9 #[.pointer (some ⟨gAa, 0, none⟩), .int .u8 x19_24, .int .u8 x20_28] ?_; (with_reducible refine (lane_Lane_Step.calls gAa x6108000_1 x6108001_1 x19_24 x20_28 tAb tAi tAj w _ ?side1 ?side2 A33.out).mono ?_); (case side1 => repeat (first | (with_reducible first | exact HIAa.out | apply IsS38.alloc | apply IsS38.drewN | apply IsS38.drew | apply IsS38.set_0 | apply IsS38.set_1) | exact HIAa.out)); (case side2 => repeat (first | (with_reducible first | exact HB.out | apply below_alloc | apply pw_below_drewN | apply below_drew1 | refine below_set ?_ (IsS38.ge HIAa.out) | refine below_set ?_ (IsS40.ge HIAc.out)) | exact HB.out)); rintro e w37 ⟨rfl, hi, hb, hk⟩; refine ⟨_, rfl, ?_⟩; replace HIAc := Aside0.mk ((show IsS40 w _ gAc x6111000_1 x6111001_1 from ⟨KeepBut.blk hk (show IsS40 w _ gAc x6111000_1 x6111001_1 from by repeat (first | (with_reducible first | exact HIAc.out | apply IsS40.alloc | apply IsS40.drewN | apply IsS40.drew | apply IsS40.set_0 | apply IsS40.set_1) | exact HIAc.out)).1 (IsS40.ne_blk (show IsS40 w _ gAc x6111000_1 x6111001_1 from by repeat (first | (with_reducible first | exact HIAc.out | apply IsS40.alloc | apply IsS40.drewN | apply IsS40.drew | apply IsS40.set_0 | apply IsS40.set_1) | exact HIAc.out)) (show IsS38 w _ gAa x6108000_1 x6108001_1 from by repeat (first | (with_reducible first | exact HIAa.out | apply IsS38.alloc | apply IsS38.drewN | apply IsS38.drew | apply IsS38.set_0 | apply IsS38.set_1) | exact HIAa.out)).1 (by decide)) (by simp), (show IsS40 w _ gAc x6111000_1 x6111001_1 from by repeat (first | (with_reducible first | exact HIAc.out | apply IsS40.alloc | apply IsS40.drewN | apply IsS40.drew | apply IsS40.set_0 | apply IsS40.set_1) | exact HIAc.out)).2⟩)); replace HB := Aside0.mk (hb); replace HIAa := Aside0.mk (hi); (try clear hb); (try clear hb2); (try clear hk); (try clear hi)) | ((with_reducible refine gate_callee (f := 10) rfl ?_); refine gL_ 75 Try.func10 #[.pointer (some ⟨gAc, 0, none⟩), .int .u8 x19_24, .int .u8 x20_28] ?_; (with_reducible refine (plaitingref7_Lane_Step.calls gAc x6111000_1 x6111001_1 x19_24 x20_28 tAn tAq tAr w _ ?side1 ?side2 A34.out).mono ?_); (case side1 => repeat (first | (with_reducible first | exact HIAc.out | apply IsS40.alloc | apply IsS40.drewN | apply IsS40.drew | apply IsS40.set_0 | apply IsS40.set_1) | exact HIAc.out)); (case side2 => repeat (first | (with_reducible first | exact HB.out | apply below_alloc | apply pw_below_drewN | apply below_drew1 | refine below_set ?_ (IsS38.ge HIAa.out) | refine below_set ?_ (IsS40.ge HIAc.out)) | exact HB.out)); rintro e w38 ⟨rfl, hi, hb, hk⟩; refine ⟨_, rfl, ?_⟩; replace HIAa := Aside0.mk ((show IsS38 w _ gAa tAi tAj from ⟨KeepBut.blk hk (show IsS38 w _ gAa tAi tAj from by repeat (first | (with_reducible first | exact HIAa.out | apply IsS38.alloc | apply IsS38.drewN | apply IsS38.drew | apply IsS38.set_0 | apply IsS38.set_1) | exact HIAa.out)).1 (IsS38.ne_blk (show IsS38 w _ gAa tAi tAj from by repeat (first | (with_reducible first | exact HIAa.out | apply IsS38.alloc | apply IsS38.drewN | apply IsS38.drew | apply IsS38.set_0 | apply IsS38.set_1) | exact HIAa.out)) (show IsS40 w _ gAc x6111000_1 x6111001_1 from by repeat (first | (with_reducible first | exact HIAc.out | apply IsS40.alloc | apply IsS40.drewN | apply IsS40.drew | apply IsS40.set_0 | apply IsS40.set_1) | exact HIAc.out)).1 (by decide)) (by simp), (show IsS38 w _ gAa tAi tAj from by repeat (first | (with_reducible first | exact HIAa.out | apply IsS38.alloc | apply IsS38.drewN | apply IsS38.drew | apply IsS38.set_0 | apply IsS38.set_1) | exact HIAa.out)).2⟩)); replace HB := Aside0.mk (hb); replace HIAc := Aside0.mk (hi); (try clear hb); (try clear hb2); (try clear hk); (try clear hi)))
         go_roundg kj28
         case measure => have := HK1.out; have := HJ24.out; have := HJ28.out; omega
         case rel => exact ⟨(x16_1), (true), (wrap64 (x18_1 + 1)), (tAi), (tAj), (tAq), (tAr), (by first | rfl | (simp; done) | (simp [*]; done)), (by first | rfl | (simp; done) | (simp [*]; done)), (by first | rfl | (simp; done) | (simp [*]; done)), H', ⟨by have := HK1.out; have := HJ24.out; have := HJ28.out; omega⟩, ⟨by repeat (first | (with_reducible first | exact HIAa.out | apply IsS38.alloc | apply IsS38.drewN | apply IsS38.drew | apply IsS38.set_0 | apply IsS38.set_1) | exact HIAa.out)⟩, ⟨by repeat (first | (with_reducible first | exact HIAc.out | apply IsS40.alloc | apply IsS40.drewN | apply IsS40.drew | apply IsS40.set_0 | apply IsS40.set_1) | exact HIAc.out)⟩, ⟨by repeat (first | (with_reducible first | exact HB.out | apply below_alloc | apply pw_below_drewN | apply below_drew1 | refine below_set ?_ (IsS38.ge HIAa.out) | refine below_set ?_ (IsS40.ge HIAc.out)) | exact HB.out)⟩⟩
        replace c36 := Bool.eq_false_iff.mpr c36
        subst c36
        have H1 : (if tAb = 46 then (plaitinglaw7_LaneSteps.l0 kj28 a3 l4 (tAe ++ tAf) (tAe ++ tAg) x16_1 (tAb == 46) (wrap64 (x18_1 + 1)) tAi tAj tAq tAr) else ((some (([tAb] : List Int) : List Int)).bind fun yAm => (if x16_1.size + (strOfNums yAm).size ≤ 9223372036854775807 then (plaitinglaw7_LaneSteps.l0 kj28 a3 l4 (tAe ++ tAf) (tAe ++ tAg) (x16_1 ++ (strOfNums yAm)) (tAb == 46) (wrap64 (x18_1 + 1)) tAi tAj tAq tAr) else (none)))) = some r := by rw [if_neg (show ¬ (false = true) by decide)] at H; exact H
        clear H
        have H := H1
        clear H1
        by_cases c39 : tAb = 46
        ·
         rw [if_pos c39] at H
         have c39b0 : (tAb == 46) = true := beq_iff_eq.mpr c39
         have c39b1 : (tAb != 46) = false := bne_eq_false_iff_eq.mpr c39
         clear c39
         have H' := Aside0.mk H
         clear H
         go_wp2_with (first | ((with_reducible refine gate_callee (f := 9) rfl ?_); refine gL_ 70 Try.func9 #[.pointer (some ⟨gAa, 0, none⟩), .int .u8 x19_24, .int .u8 x20_28] ?_; (with_reducible refine (lane_Lane_Step.calls gAa x6108000_1 x6108001_1 x19_24 x20_28 tAb tAi tAj w _ ?side1 ?side2 A33.out).mono ?_); (case side1 => repeat (first | (with_reducible first | exact HIAa.out | apply IsS38.alloc | apply IsS38.drewN | apply IsS38.drew | apply IsS38.set_0 | apply IsS38.set_1) | exact HIAa.out)); (case side2 => repeat (first | (with_reducible first | exact HB.out | apply below_alloc | apply pw_below_drewN | apply below_drew1 | refine below_set ?_ (IsS38.ge HIAa.out) | refine below_set ?_ (IsS40.ge HIAc.out)) | exact HB.out)); rintro e w40 ⟨rfl, hi, hb, hk⟩; refine ⟨_, rfl, ?_⟩; replace HIAc := Aside0.mk ((show IsS40 w _ gAc x6111000_1 x6111001_1 from ⟨KeepBut.blk hk (show IsS40 w _ gAc x6111000_1 x6111001_1 from by repeat (first | (with_reducible first | exact HIAc.out | apply IsS40.alloc | apply IsS40.drewN | apply IsS40.drew | apply IsS40.set_0 | apply IsS40.set_1) | exact HIAc.out)).1 (IsS40.ne_blk (show IsS40 w _ gAc x6111000_1 x6111001_1 from by repeat (first | (with_reducible first | exact HIAc.out | apply IsS40.alloc | apply IsS40.drewN | apply IsS40.drew | apply IsS40.set_0 | apply IsS40.set_1) | exact HIAc.out)) (show IsS38 w _ gAa x6108000_1 x6108001_1 from by repeat (first | (with_reducible first | exact HIAa.out | apply IsS38.alloc | apply IsS38.drewN | apply IsS38.drew | apply IsS38.set_0 | apply IsS38.set_1) | exact HIAa.out)).1 (by decide)) (by simp), (show IsS40 w _ gAc x6111000_1 x6111001_1 from by repeat (first | (with_reducible first | exact HIAc.out | apply IsS40.alloc | apply IsS40.drewN | apply IsS40.drew | apply IsS40.set_0 | apply IsS40.set_1) | exact HIAc.out)).2⟩)); replace HB := Aside0.mk (hb); replace HIAa := Aside0.mk (hi); (try clear hb); (try clear hb2); (try clear hk); (try clear hi)) | ((with_reducible refine gate_callee (f := 10) rfl ?_); refine gL_ 75 Try.func10 #[.pointer (some ⟨gAc, 0, none⟩), .int .u8 x19_24, .int .u8 x20_28] ?_; (with_reducible refine (plaitingref7_Lane_Step.calls gAc x6111000_1 x6111001_1 x19_24 x20_28 tAn tAq tAr w _ ?side1 ?side2 A34.out).mono ?_); (case side1 => repeat (first | (with_reducible first | exact HIAc.out | apply IsS40.alloc | apply IsS40.drewN | apply IsS40.drew | apply IsS40.set_0 | apply IsS40.set_1) | exact HIAc.out)); (case side2 => repeat (first | (with_reducible first | exact HB.out | apply below_alloc | apply pw_below_drewN | apply below_drew1 | refine below_set ?_ (IsS38.ge HIAa.out) | refine below_set ?_ (IsS40.ge HIAc.out)) | exact HB.out)); rintro e w41 ⟨rfl, hi, hb, hk⟩; refine ⟨_, rfl, ?_⟩; replace HIAa := Aside0.mk ((show IsS38 w _ gAa tAi tAj from ⟨KeepBut.blk hk (show IsS38 w _ gAa tAi tAj from by repeat (first | (with_reducible first | exact HIAa.out | apply IsS38.alloc | apply IsS38.drewN | apply IsS38.drew | apply IsS38.set_0 | apply IsS38.set_1) | exact HIAa.out)).1 (IsS38.ne_blk (show IsS38 w _ gAa tAi tAj from by repeat (first | (with_reducible first | exact HIAa.out | apply IsS38.alloc | apply IsS38.drewN | apply IsS38.drew | apply IsS38.set_0 | apply IsS38.set_1) | exact HIAa.out)) (show IsS40 w _ gAc x6111000_1 x6111001_1 from by repeat (first | (with_reducible first | exact HIAc.out | apply IsS40.alloc | apply IsS40.drewN | apply IsS40.drew | apply IsS40.set_0 | apply IsS40.set_1) | exact HIAc.out)).1 (by decide)) (by simp), (show IsS38 w _ gAa tAi tAj from by repeat (first | (with_reducible first | exact HIAa.out | apply IsS38.alloc | apply IsS38.drewN | apply IsS38.drew | apply IsS38.set_0 | apply IsS38.set_1) | exact HIAa.out)).2⟩)); replace HB := Aside0.mk (hb); replace HIAc := Aside0.mk (hi); (try clear hb); (try clear hb2); (try clear hk); (try clear hi)))
         go_roundg kj28
         case measure => have := HK1.out; have := HJ24.out; have := HJ28.out; omega
         case rel => exact ⟨(x16_1), ((tAb == 46)), (wrap64 (x18_1 + 1)), (tAi), (tAj), (tAq), (tAr), (by first | rfl | (simp; done) | (simp [*]; done)), (by first | rfl | (simp; done) | (simp [*]; done)), (by first | rfl | (simp; done) | (simp [*]; done)), H', ⟨by have := HK1.out; have := HJ24.out; have := HJ28.out; omega⟩, ⟨by repeat (first | (with_reducible first | exact HIAa.out | apply IsS38.alloc | apply IsS38.drewN | apply IsS38.drew | apply IsS38.set_0 | apply IsS38.set_1) | exact HIAa.out)⟩, ⟨by repeat (first | (with_reducible first | exact HIAc.out | apply IsS40.alloc | apply IsS40.drewN | apply IsS40.drew | apply IsS40.set_0 | apply IsS40.set_1) | exact HIAc.out)⟩, ⟨by repeat (first | (with_reducible first | exact HB.out | apply below_alloc | apply pw_below_drewN | apply below_drew1 | refine below_set ?_ (IsS38.ge HIAa.out) | refine below_set ?_ (IsS40.ge HIAc.out)) | exact HB.out)⟩⟩
        rw [if_neg c39] at H
        have c39b0 : (tAb == 46) = false := beq_eq_false_iff_ne.mpr c39
        have c39b1 : (tAb != 46) = true := bne_iff_ne.mpr c39
        obtain ⟨yAm, hyAm⟩ : ∃ y_ : List Int, y_ = (([tAb] : List Int)) := ⟨_, rfl⟩
        replace H : (if x16_1.size + (strOfNums yAm).size ≤ 9223372036854775807 then (plaitinglaw7_LaneSteps.l0 kj28 a3 l4 (tAe ++ tAf) (tAe ++ tAg) (x16_1 ++ (strOfNums yAm)) (tAb == 46) (wrap64 (x18_1 + 1)) tAi tAj tAq tAr) else (none)) = some r := by first | (rw [hyAm]; with_reducible exact H) | (have H2_ := (Option.bind_some _ _).symm.trans H; rw [hyAm]; with_reducible exact H2_) | (have H2_ := (Option.bind_some _ _).symm.trans H; with_reducible exact H2_) | with_reducible exact H | (rw [hyAm]; exact H) | exact H
        have NyAm := Aside0.mk hyAm
        clear hyAm
        by_cases c42 : x16_1.size + (strOfNums yAm).size ≤ 9223372036854775807
        ·
         rw [if_pos c42] at H
         have c42b0 := eq_true c42
         have c42b1 : decide (x16_1.size + (strOfNums yAm).size ≤ 9223372036854775807) = true := decide_eq_true c42
         try have c42b2 : (9223372036854775807 < x16_1.size + (strOfNums yAm).size) = False := eq_false (Nat.not_lt.2 c42)
         have H' := Aside0.mk H
         clear H
         go_wp2_with (first | ((with_reducible refine gate_callee (f := 9) rfl ?_); refine gL_ 70 Try.func9 #[.pointer (some ⟨gAa, 0, none⟩), .int .u8 x19_24, .int .u8 x20_28] ?_; (with_reducible refine (lane_Lane_Step.calls gAa x6108000_1 x6108001_1 x19_24 x20_28 tAb tAi tAj w _ ?side1 ?side2 A33.out).mono ?_); (case side1 => repeat (first | (with_reducible first | exact HIAa.out | apply IsS38.alloc | apply IsS38.drewN | apply IsS38.drew | apply IsS38.set_0 | apply IsS38.set_1) | exact HIAa.out)); (case side2 => repeat (first | (with_reducible first | exact HB.out | apply below_alloc | apply pw_below_drewN | apply below_drew1 | refine below_set ?_ (IsS38.ge HIAa.out) | refine below_set ?_ (IsS40.ge HIAc.out)) | exact HB.out)); rintro e w43 ⟨rfl, hi, hb, hk⟩; refine ⟨_, rfl, ?_⟩; replace HIAc := Aside0.mk ((show IsS40 w _ gAc x6111000_1 x6111001_1 from ⟨KeepBut.blk hk (show IsS40 w _ gAc x6111000_1 x6111001_1 from by repeat (first | (with_reducible first | exact HIAc.out | apply IsS40.alloc | apply IsS40.drewN | apply IsS40.drew | apply IsS40.set_0 | apply IsS40.set_1) | exact HIAc.out)).1 (IsS40.ne_blk (show IsS40 w _ gAc x6111000_1 x6111001_1 from by repeat (first | (with_reducible first | exact HIAc.out | apply IsS40.alloc | apply IsS40.drewN | apply IsS40.drew | apply IsS40.set_0 | apply IsS40.set_1) | exact HIAc.out)) (show IsS38 w _ gAa x6108000_1 x6108001_1 from by repeat (first | (with_reducible first | exact HIAa.out | apply IsS38.alloc | apply IsS38.drewN | apply IsS38.drew | apply IsS38.set_0 | apply IsS38.set_1) | exact HIAa.out)).1 (by decide)) (by simp), (show IsS40 w _ gAc x6111000_1 x6111001_1 from by repeat (first | (with_reducible first | exact HIAc.out | apply IsS40.alloc | apply IsS40.drewN | apply IsS40.drew | apply IsS40.set_0 | apply IsS40.set_1) | exact HIAc.out)).2⟩)); replace HB := Aside0.mk (hb); replace HIAa := Aside0.mk (hi); (try clear hb); (try clear hb2); (try clear hk); (try clear hi)) | ((with_reducible refine gate_callee (f := 10) rfl ?_); refine gL_ 75 Try.func10 #[.pointer (some ⟨gAc, 0, none⟩), .int .u8 x19_24, .int .u8 x20_28] ?_; (with_reducible refine (plaitingref7_Lane_Step.calls gAc x6111000_1 x6111001_1 x19_24 x20_28 tAn tAq tAr w _ ?side1 ?side2 A34.out).mono ?_); (case side1 => repeat (first | (with_reducible first | exact HIAc.out | apply IsS40.alloc | apply IsS40.drewN | apply IsS40.drew | apply IsS40.set_0 | apply IsS40.set_1) | exact HIAc.out)); (case side2 => repeat (first | (with_reducible first | exact HB.out | apply below_alloc | apply pw_below_drewN | apply below_drew1 | refine below_set ?_ (IsS38.ge HIAa.out) | refine below_set ?_ (IsS40.ge HIAc.out)) | exact HB.out)); rintro e w44 ⟨rfl, hi, hb, hk⟩; refine ⟨_, rfl, ?_⟩; replace HIAa := Aside0.mk ((show IsS38 w _ gAa tAi tAj from ⟨KeepBut.blk hk (show IsS38 w _ gAa tAi tAj from by repeat (first | (with_reducible first | exact HIAa.out | apply IsS38.alloc | apply IsS38.drewN | apply IsS38.drew | apply IsS38.set_0 | apply IsS38.set_1) | exact HIAa.out)).1 (IsS38.ne_blk (show IsS38 w _ gAa tAi tAj from by repeat (first | (with_reducible first | exact HIAa.out | apply IsS38.alloc | apply IsS38.drewN | apply IsS38.drew | apply IsS38.set_0 | apply IsS38.set_1) | exact HIAa.out)) (show IsS40 w _ gAc x6111000_1 x6111001_1 from by repeat (first | (with_reducible first | exact HIAc.out | apply IsS40.alloc | apply IsS40.drewN | apply IsS40.drew | apply IsS40.set_0 | apply IsS40.set_1) | exact HIAc.out)).1 (by decide)) (by simp), (show IsS38 w _ gAa tAi tAj from by repeat (first | (with_reducible first | exact HIAa.out | apply IsS38.alloc | apply IsS38.drewN | apply IsS38.drew | apply IsS38.set_0 | apply IsS38.set_1) | exact HIAa.out)).2⟩)); replace HB := Aside0.mk (hb); replace HIAc := Aside0.mk (hi); (try clear hb); (try clear hb2); (try clear hk); (try clear hi)) | ((with_reducible refine gate_dst (N := 86) rfl ?_); refine Kd.R_lit (Kd.int .u8) _ 5 ?hg (N := 86) ?hd (xs := ([tAb] : List Int)) (inner := [.int .u8 tAb]) (ok := fun _ => True) (okp := fun _ => True) ?hr ?hp (fun _ hk => hk) trivial (Below.refl _ _) (Nat.le_refl _) (by simp) ?_; (case hd => rfl); (case hg => rfl); (case hr => first | (go_simp; done) | (go_simp; rfl)); (case hp => exact (Reps.one (show Kd.M (Kd.int .u8) _ _ _ tAb [.int .u8 tAb] from rfl) (Reps.none _ _))); intro vBa w45 ho46 hb hg_ hnew_; clear hg_ hnew_; (first | rw [← NyAm.out] at ho46 | (simp only [Int.reduceToNat] at ho46; rw [← NyAm.out] at ho46)); have HOAz := Aside0.mk (Kd.R_lower ho46 (below_size (by repeat (first | (with_reducible first | exact HB.out | apply below_alloc | apply pw_below_drewN | apply below_drew1 | refine below_set ?_ (IsS38.ge HIAa.out) | refine below_set ?_ (IsS40.ge HIAc.out)) | exact HB.out)))); replace HB := Aside0.mk (below_step (by repeat (first | (with_reducible first | exact HB.out | apply below_alloc | apply pw_below_drewN | apply below_drew1 | refine below_set ?_ (IsS38.ge HIAa.out) | refine below_set ?_ (IsS40.ge HIAc.out)) | exact HB.out)) hb); replace HIAa := Aside0.mk (IsS38.below (by repeat (first | (with_reducible first | exact HIAa.out | apply IsS38.alloc | apply IsS38.drewN | apply IsS38.drew | apply IsS38.set_0 | apply IsS38.set_1) | exact HIAa.out)) hb); replace HIAc := Aside0.mk (IsS40.below (by repeat (first | (with_reducible first | exact HIAc.out | apply IsS40.alloc | apply IsS40.drewN | apply IsS40.drew | apply IsS40.set_0 | apply IsS40.set_1) | exact HIAc.out)) hb); clear hb ho46; have hcv47 := own_string (P := Try.prog) Try.underlying23 Try.underlying5 Try.underlying9 (Kd.own_of_R HOAz.out)))
         go_roundg kj28
         case measure => have := HK1.out; have := HJ24.out; have := HJ28.out; omega
         case rel => exact ⟨(x16_1 ++ (strOfNums yAm)), ((tAb == 46)), (wrap64 (x18_1 + 1)), (tAi), (tAj), (tAq), (tAr), (by first | rfl | (simp; done) | (simp [*]; done)), (by first | rfl | (simp; done) | (simp [*]; done)), (by first | rfl | (simp; done) | (simp [*]; done)), H', ⟨by have := HK1.out; have := HJ24.out; have := HJ28.out; omega⟩, ⟨by repeat (first | (with_reducible first | exact HIAa.out | apply IsS38.alloc | apply IsS38.drewN | apply IsS38.drew | apply IsS38.set_0 | apply IsS38.set_1) | exact HIAa.out)⟩, ⟨by repeat (first | (with_reducible first | exact HIAc.out | apply IsS40.alloc | apply IsS40.drewN | apply IsS40.drew | apply IsS40.set_0 | apply IsS40.set_1) | exact HIAc.out)⟩, ⟨by repeat (first | (with_reducible first | exact HB.out | apply below_alloc | apply pw_below_drewN | apply below_drew1 | refine below_set ?_ (IsS38.ge HIAa.out) | refine below_set ?_ (IsS40.ge HIAc.out)) | exact HB.out)⟩⟩
        rw [if_neg c42] at H
        exact absurd H (by simp)
   rw [if_neg c24] at H
   have c24b0 : decide (x18_1 ≤ (ji23)) = false := decide_eq_false c24
   clear c24
   have H' := Aside0.mk H
   clear H
   go_wp2
   go_loopg [22] k1 (fun kq v22 w' => ∃ (x22_2 : Int) (x6108000_2 : Bool) (x6108001_2 : Bool), v22 = .int .i64 x22_2 ∧ Aside0 (plaitinglaw7_LaneSteps.l1 kq a3 l4 (tAe ++ tAf) (tAe ++ tAg) x16_1 x17_1 x22_2 x6108000_2 x6108001_2 = some r) ∧ Aside0 (kq ≤ k1) ∧ Aside0 (IsS38 w w' gAa x6108000_2 x6108001_2) ∧ Aside0 (Below w.heap.size w w'))
   case atStart => exact ⟨(0), (x6108000_1), (x6108001_1), (by first | rfl | (simp; done) | (simp [*]; done)), H', ⟨Nat.le_refl _⟩, ⟨by repeat (first | (with_reducible first | exact HIAa.out | apply IsS38.alloc | apply IsS38.drewN | apply IsS38.drew | apply IsS38.set_0 | apply IsS38.set_1) | exact HIAa.out)⟩, ⟨by repeat (first | (with_reducible first | exact HB.out | apply below_alloc | apply pw_below_drewN | apply below_drew1 | refine below_set ?_ (IsS38.ge HIAa.out) | refine below_set ?_ (IsS40.ge HIAc.out)) | exact HB.out)⟩⟩
   case round =>
    clear H'
    try clear c1
    try clear c2
    try clear p2
    try clear q2
    try clear hx2
    try clear c3
    try clear p3
    try clear q3
    try clear hx3
    try clear c4
    try clear hcv4
    try clear c5
    try clear c6
    try clear p6
    try clear c7
    try clear c8
    try clear c8b0
    try clear c8b1
    try clear c9
    try clear c10
    try clear c12
    try clear c12b0
    try clear c12b1
    try clear c12b2
    try clear c14
    try clear c14b0
    try clear c14b1
    try clear c14b2
    try clear c24
    try clear c24b0
    try clear c26
    try clear c26b0
    try clear c27
    try clear c27b0
    try clear p28
    try clear q28
    try clear hx28
    try clear c30
    try clear c30b0
    try clear c31
    try clear c31b0
    try clear p32
    try clear q32
    try clear hx32
    try clear c35
    try clear c35b0
    try clear c35b1
    try clear c36
    try clear c39
    try clear c39b0
    try clear c39b1
    try clear c42
    try clear c42b0
    try clear c42b1
    try clear c42b2
    try clear hcv47
    try clear p2
    try clear p28
    try clear p3
    try clear p32
    try clear q2
    try clear q28
    try clear q3
    try clear q32
    obtain ⟨x22_2, x6108000_2, x6108001_2, rfl, HA, HK2, HIAa, HB⟩ := hrel
    cases gk with
    | zero => exact absurd HA.out (by simp [plaitinglaw7_LaneSteps.l1])
    | succ k2 =>
     have H := HA.out
     clear HA
     simp only [plaitinglaw7_LaneSteps.l1] at H
     by_cases c48 : x22_2 < (l4.length : Int)
     ·
      rw [if_pos c48] at H
      have c48b0 : decide (x22_2 < (l4.length : Int)) = true := decide_eq_true c48
      clear c48
      by_cases c49 : 0 ≤ x22_2
      rotate_left
      ·
       rw [if_neg c49] at H
       exact absurd H (by simp)
      rw [if_pos c49] at H
      have c49b0 : decide (0 ≤ x22_2) = true := decide_eq_true c49
      clear c49
      replace H := Option.bind_eq_some_iff.mp H
      obtain ⟨⟨tAs, tAx, tAy⟩, A500, H⟩ := H
      try dsimp only at H
      have A50 := Aside0.mk A500
      clear A500
      by_cases c51 : tAs = 46
      rotate_left
      ·
       rw [if_neg c51] at H
       have c51b0 : (tAs == 46) = false := beq_eq_false_iff_ne.mpr c51
       have c51b1 : (tAs != 46) = true := bne_iff_ne.mpr c51
       exact absurd ((Option.some.inj H).trans HRT.out) (by decide)
      rw [if_pos c51] at H
      have c51b0 : (tAs == 46) = true := beq_iff_eq.mpr c51
      have c51b1 : (tAs != 46) = false := bne_eq_false_iff_eq.mpr c51
      clear c51
      have H' := Aside0.mk H
      clear H
      try go_wp2
      replace HIAa := Aside0.mk (IsS38.drew HIAa.out)
      replace HB := Aside0.mk (below_drew1 HB.out)
      have pAh : 0 ≤ (x22_2 : Int) := of_decide_eq_true (by first | (with_reducible assumption) | assumption)
      have qAh : x22_2 < (l4.length : Int) := of_decide_eq_true (by first | (with_reducible assumption) | assumption)
      obtain ⟨adAh, eAh, hxAh_0⟩ := Kd.at_int HR4.out x22_2 pAh qAh
      have hwAh_0 := hxAh_0
      cases eAh
      replace hxAh_0 := (HB.out.cell (World.block_lt_of_cell? w _ hxAh_0)).trans hxAh_0
      replace pAh := eq_true pAh
      replace qAh := eq_true qAh
      have pAk : 0 ≤ (x22_2 : Int) := of_decide_eq_true (by first | (with_reducible assumption) | assumption)
      have qAk : x22_2 < (l4.length : Int) := of_decide_eq_true (by first | (with_reducible assumption) | assumption)
      obtain ⟨adAk, eAk, hxAk_0⟩ := Kd.at_int HR4.out x22_2 pAk qAk
      have hwAk_0 := hxAk_0
      obtain rfl : adAh = adAk := (by injection eAk)
      replace hxAk_0 := (HB.out.cell (World.block_lt_of_cell? w _ hxAk_0)).trans hxAk_0
      replace pAk := eq_true pAk
      replace qAk := eq_true qAk
      refine start_ (n := 11) (S := fun w' => w'.cell? (adAh.add (x22_2).toNat) = some (.int .u8 (rd l4 x22_2)) ∧ w'.cell? (adAh.add (x22_2).toNat) = some (.int .u8 (rd l4 x22_2))) (ds := []) #[false, false, false, false, false, false, false, false, false, false, false] (by kernel_rfl) rfl rfl ⟨((HB.out.cell (World.block_lt_of_cell? w _ hwAh_0)).trans hwAh_0), ((HB.out.cell (World.block_lt_of_cell? w _ hwAk_0)).trans hwAk_0)⟩ (fun hHeld => ?_); refine with_tabW plaitinglaw7_LaneSteps.tab28 plaitinglaw7_LaneSteps.bits28 (fun HT_ HW_ => ?_)
      generalize wr.drew = w52 at HIAa HB hxAh_0 hxAk_0 hHeld ⊢
      refine pq_ 0 95 HT_ ?_
      refine pq_ 1 96 HT_ ?_
      refine pq_ 2 97 HT_ ?_
      refine pq_ 3 98 HT_ ?_
      refine pq_ 5 100 HT_ ?_
      refine pq_ 6 101 HT_ ?_
      refine pq_ 7 102 HT_ ?_
      refine tq_ 4 99 HT_ HW_ hHeld ?_
      refine tq_ 8 103 HT_ HW_ hHeld ?_
      refine oq_ 9 104 HT_ (fun K hK => ?_)
      refine gs_ Try.func9 #[.pointer (some ⟨gAa, 0, none⟩), .int .u8 (rd l4 x22_2), .int .u8 (rd l4 x22_2)] ?_
      with_reducible refine (lane_Lane_Step.calls gAa x6108000_2 x6108001_2 (rd l4 x22_2) (rd l4 x22_2) tAs tAx tAy w _ ?side1 ?side2 A50.out).mono ?_
      (case side1 => repeat (first | (with_reducible first | exact HIAa.out | apply IsS38.alloc | apply IsS38.drewN | apply IsS38.drew | apply IsS38.set_0 | apply IsS38.set_1) | exact HIAa.out))
      (case side2 => repeat (first | (with_reducible first | exact HB.out | apply below_alloc | apply pw_below_drewN | apply below_drew1 | refine below_set ?_ (IsS38.ge HIAa.out)) | exact HB.out))
      rintro e w53 ⟨rfl, hi, hb, hk⟩
      refine ⟨_, rfl, ?_⟩
      replace HB := Aside0.mk (hb)
      replace HIAa := Aside0.mk (hi)
      (try clear hb)
      (try clear hb2)
      (try clear hk)
      (try clear hi)
      refine hK.out _ _ ⟨((HB.out.cell (World.block_lt_of_cell? w _ hwAh_0)).trans hwAh_0), ((HB.out.cell (World.block_lt_of_cell? w _ hwAk_0)).trans hwAk_0)⟩ (fun hHeld => ?_)
      clear hK K
      refine nq_ 104 ?_
      refine pq_ 10 105 HT_ ?_
      refine done_ (done_of HT_.out (by kernel_rfl)) ?_
      try go_wp2
      go_roundg k2
      case measure => have := HK1.out; have := HK2.out; omega
      case rel => exact ⟨(wrap64 (x22_2 + 1)), (tAx), (tAy), (by first | rfl | (simp; done) | (simp [*]; done)), H', ⟨by have := HK1.out; have := HK2.out; omega⟩, ⟨by repeat (first | (with_reducible first | exact HIAa.out | apply IsS38.alloc | apply IsS38.drewN | apply IsS38.drew | apply IsS38.set_0 | apply IsS38.set_1) | exact HIAa.out)⟩, ⟨by repeat (first | (with_reducible first | exact HB.out | apply below_alloc | apply pw_below_drewN | apply below_drew1 | refine below_set ?_ (IsS38.ge HIAa.out)) | exact HB.out)⟩⟩
     rw [if_neg c48] at H
     have c48b0 : decide (x22_2 < (l4.length : Int)) = false := decide_eq_false c48
     clear c48
     by_cases c54 : x17_1 = true
     ·
      subst c54
      have H1 : ((lane_Out.f a3 (tAe ++ tAf) (tAe ++ tAg)).bind fun tAu => (some (tAu.toList == x16_1.toList))) = some r := by rw [if_pos rfl] at H; exact H
      clear H
      have H := H1
      clear H1
      replace H := Option.bind_eq_some_iff.mp H
      obtain ⟨tAu, A550, H⟩ := H
      try dsimp only at H
      have A55 := Aside0.mk A550
      clear A550
      obtain rfl := Option.some.inj H
      go_wp2_with (first | (go_at_call 11; (with_reducible refine (lane_Out.calls a3 (tAe ++ tAf) (tAe ++ tAg) tAu _ A55.out).mono ?_); rintro e w56 ⟨rfl, hb⟩; have n0_ := Aside0.mk (IsS38.below (by repeat (first | (with_reducible first | exact HIAa.out | apply IsS38.alloc | apply IsS38.drewN | apply IsS38.drew | apply IsS38.set_0 | apply IsS38.set_1) | exact HIAa.out)) hb); have n1_ := Aside0.mk (below_step (by repeat (first | (with_reducible first | exact HB.out | apply below_alloc | apply pw_below_drewN | apply below_drew1 | refine below_set ?_ (IsS38.ge HIAa.out)) | exact HB.out)) hb); clear HIAa; clear HB; have HIAa := n0_; have HB := n1_; clear n0_ n1_; (try clear hb); (try clear hb2); (try clear hk); (try clear hi)))
      go_ret
      exact ⟨by first | rfl | (simp [errW_none, errW_some] <;> rfl) | (simp only [← hji23]; first | rfl | (simp [errW_none, errW_some] <;> rfl)) | (simp [*, errW_none, errW_some] <;> rfl), by repeat (first | (with_reducible first | exact HB.out | apply below_alloc | apply pw_below_drewN | apply below_drew1 | refine below_set ?_ (IsS38.ge HIAa.out)) | exact HB.out)⟩
     replace c54 := Bool.eq_false_iff.mpr c54
     subst c54
     have H1 : (some false) = some r := by rw [if_neg (show ¬ (false = true) by decide)] at H; exact H
     clear H
     have H := H1
     clear H1
     exact absurd ((Option.some.inj H).trans HRT.out) (by decide)
def plaitinglaw7_LaneSteps.Pure : Prop := ∀ (l0 : List Int) (l1 : List Int) (l2 : List Int) (a3 : Bool) (l4 : List Int), l0.length ≤ maxLen → l0.length * 8 ≤ 140737488351232 → (∀ x ∈ l0, (Lit.int .i64 x).wf = true) → l1.length ≤ maxLen → l1.length * 8 ≤ 140737488351232 → (∀ x ∈ l1, (Lit.int .i64 x).wf = true) → l2.length ≤ maxLen → l2.length * 8 ≤ 140737488351232 → (∀ x ∈ l2, (Lit.int .i64 x).wf = true) → l4.length ≤ maxLen → l4.length * 1 ≤ 140737488351232 → (∀ x ∈ l4, (Lit.int .u8 x).wf = true) → ∃ k, plaitinglaw7_LaneSteps.f k l0 l1 l2 a3 l4 = some true
theorem plaitinglaw7_LaneSteps.walk (P : plaitinglaw7_LaneSteps.Pure) (a0 : Option Addr) (len0 cap0 : Nat) (z0 : List Int) (a1 : Option Addr) (len1 cap1 : Nat) (z1 : List Int) (a2 : Option Addr) (len2 cap2 : Nat) (z2 : List Int) (a3 : Bool) (a4 : Option Addr) (len4 cap4 : Nat) (z4 : List Int) (w : World) (w0 : (a0 = none ∧ len0 = 0 ∧ cap0 = 0 ∧ z0 = []) ∨ ∃ x, a0 = some x ∧ len0 ≤ cap0 ∧ cap0 ≤ maxLen ∧ z0.length = cap0 ∧ (∀ i, i < z0.length → w.cell? (x.add i) = some (.int .i64 (z0.getD i 0))) ∧ ∀ n ∈ z0, (Lit.int .i64 n).wf = true) (y0 : len0 * 8 ≤ 140737488351232) (w1 : (a1 = none ∧ len1 = 0 ∧ cap1 = 0 ∧ z1 = []) ∨ ∃ x, a1 = some x ∧ len1 ≤ cap1 ∧ cap1 ≤ maxLen ∧ z1.length = cap1 ∧ (∀ i, i < z1.length → w.cell? (x.add i) = some (.int .i64 (z1.getD i 0))) ∧ ∀ n ∈ z1, (Lit.int .i64 n).wf = true) (y1 : len1 * 8 ≤ 140737488351232) (w2 : (a2 = none ∧ len2 = 0 ∧ cap2 = 0 ∧ z2 = []) ∨ ∃ x, a2 = some x ∧ len2 ≤ cap2 ∧ cap2 ≤ maxLen ∧ z2.length = cap2 ∧ (∀ i, i < z2.length → w.cell? (x.add i) = some (.int .i64 (z2.getD i 0))) ∧ ∀ n ∈ z2, (Lit.int .i64 n).wf = true) (y2 : len2 * 8 ≤ 140737488351232) (w4 : (a4 = none ∧ len4 = 0 ∧ cap4 = 0 ∧ z4 = []) ∨ ∃ x, a4 = some x ∧ len4 ≤ cap4 ∧ cap4 ≤ maxLen ∧ z4.length = cap4 ∧ (∀ i, i < z4.length → w.cell? (x.add i) = some (.int .u8 (z4.getD i 0))) ∧ ∀ n ∈ z4, (Lit.int .u8 n).wf = true) (y4 : len4 * 1 ≤ 140737488351232) :
  Calls Try.prog 3 #[.slice a0 len0 cap0, .slice a1 len1 cap1, .slice a2 len2 cap2, .bool a3, .slice a4 len4 cap4] w fun e w' => e = .returned (.bool true) ∧ Below w.heap.size w w' := by
 obtain ⟨l0, rfl, hr0, hm0, hw0, hc0⟩ := ReadsInt.ofRowC w0
 obtain ⟨l1, rfl, hr1, hm1, hw1, hc1⟩ := ReadsInt.ofRowC w1
 obtain ⟨l2, rfl, hr2, hm2, hw2, hc2⟩ := ReadsInt.ofRowC w2
 obtain ⟨l4, rfl, hr4, hm4, hw4, hc4⟩ := ReadsInt.ofRowC w4
 obtain ⟨k, h⟩ := P l0 l1 l2 a3 l4 hm0 y0 hw0 hm1 y1 hw1 hm2 y2 hw2 hm4 y4 hw4
 refine (plaitinglaw7_LaneSteps.calls k _ _ l0 _ _ l1 _ _ l2 a3 _ _ l4 true w (Kd.C_of_reads (d := (0 : Int)) (h1 := fun _ => rfl) hr0) hc0 (Kd.C_of_reads (d := (0 : Int)) (h1 := fun _ => rfl) hr1) hc1 (Kd.C_of_reads (d := (0 : Int)) (h1 := fun _ => rfl) hr2) hc2 (Kd.C_of_reads (d := (0 : Int)) (h1 := fun _ => rfl) hr4) hc4 rfl h).mono ?_
 rintro e w' ⟨rfl, hd⟩
 exact ⟨rfl, hd⟩
end Go.Proofs.Ytcfbmofffipmpaa.P
