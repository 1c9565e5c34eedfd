/- Printed by a program of this session (myprint) out of the translation: the functions as plain Lean functions, and that the calls compute them. What counts is Lean's check. -/
import Derived.Test.YtcfbmofffipmpaaQLaneApartPx4
import Derived.Test.YtcfbmofffipmpaaQLaneApartPx5
import Derived.Test.YtcfbmofffipmpaaQLaneApartPx8
namespace Go.Proofs.Ytcfbmofffipmpaa.P
open Go.RowKit Go.Proofs.YtcfbmofffipmpaaW.PrintWords Go.Proofs.YtcfbmofffipmpaaW.PrintLast Go.Proofs.YtcfbmofffipmpaaW.PrintMore
attribute [local go_sem] max2_int min2_int max_two min_two max_three min_three max_four min_four
set_option linter.unusedVariables false
set_option linter.unusedSimpArgs false
attribute [-simp] ByteArray.size_extract ByteArray.size_append ByteArray.extract_append_extract
attribute [-go_sem] ByteArray.size_append'
mutual
def plaitinglaw7_LaneApart.l0 : Nat → ByteArray → ByteArray → ByteArray → ByteArray → Int → Bool → Bool → Bool → Bool → Option (Bool)
 | 0, _, _, _, _, _, _, _, _, _ => none
 | k + 1, x5, x6, x9, x10, x11, xAd000, xAd001, xAc000, xAc001 => if x11 < (mx (x5.size : Int) (x6.size : Int)) then (if x11 < (x5.size : Int) then (if 0 ≤ x11 then (plaitinglaw7_LaneApart.j1 k x5 x6 x9 x10 x11 (bt x5 x11) 46 xAd000 xAd001 xAc000 xAc001) else (none)) else (plaitinglaw7_LaneApart.j1 k x5 x6 x9 x10 x11 46 46 xAd000 xAd001 xAc000 xAc001)) else ((plaitingref1_Clean.f k x5).bind fun tAc => (if x9.toList = tAc.toList then ((plaitingref1_Clean.f k x6).bind fun tAt => (some (x10.toList == tAt.toList))) else (some false)))
def plaitinglaw7_LaneApart.j1 : Nat → ByteArray → ByteArray → ByteArray → ByteArray → Int → Int → Int → Bool → Bool → Bool → Bool → Option (Bool)
 | 0, _, _, _, _, _, _, _, _, _, _, _ => none
 | k + 1, x5, x6, x9, x10, x11, x12, x13, xAd000, xAd001, xAc000, xAc001 => if x11 < (x6.size : Int) then (if 0 ≤ x11 then (plaitinglaw7_LaneApart.j2 k x5 x6 x9 x10 x11 x12 (bt x6 x11) xAd000 xAd001 xAc000 xAc001) else (none)) else (plaitinglaw7_LaneApart.j2 k x5 x6 x9 x10 x11 x12 x13 xAd000 xAd001 xAc000 xAc001)
def plaitinglaw7_LaneApart.j2 : Nat → ByteArray → ByteArray → ByteArray → ByteArray → Int → Int → Int → Bool → Bool → Bool → Bool → Option (Bool)
 | 0, _, _, _, _, _, _, _, _, _, _, _ => none
 | k + 1, x5, x6, x9, x10, x11, x12, x13, xAd000, xAd001, xAc000, xAc001 => (lane_Lane_Step.f xAd000 xAd001 x12 x13).bind fun btAg => (if btAg.1 = 46 then ((lane_Lane_Step.f xAc000 xAc001 x13 x13).bind fun btAn => (if btAn.1 = 46 then (plaitinglaw7_LaneApart.l0 k x5 x6 x9 x10 (wrap64 (x11 + 1)) btAg.2.1 btAg.2.2 btAn.2.1 btAn.2.2) else ((some (([btAn.1] : List Int) : List Int)).bind fun yAp => (if x10.size + (strOfNums yAp).size ≤ 9223372036854775807 then (plaitinglaw7_LaneApart.l0 k x5 x6 x9 (x10 ++ (strOfNums yAp)) (wrap64 (x11 + 1)) btAg.2.1 btAg.2.2 btAn.2.1 btAn.2.2) else (none))))) else ((some (([btAg.1] : List Int) : List Int)).bind fun yAk => (if x9.size + (strOfNums yAk).size ≤ 9223372036854775807 then ((lane_Lane_Step.f xAc000 xAc001 x13 x13).bind fun btAh => (if btAh.1 = 46 then (plaitinglaw7_LaneApart.l0 k x5 x6 (x9 ++ (strOfNums yAk)) x10 (wrap64 (x11 + 1)) btAg.2.1 btAg.2.2 btAh.2.1 btAh.2.2) else ((some (([btAh.1] : List Int) : List Int)).bind fun yAm => (if x10.size + (strOfNums yAm).size ≤ 9223372036854775807 then (plaitinglaw7_LaneApart.l0 k x5 x6 (x9 ++ (strOfNums yAk)) (x10 ++ (strOfNums yAm)) (wrap64 (x11 + 1)) btAg.2.1 btAg.2.2 btAh.2.1 btAh.2.2) else (none))))) else (none))))
end
def plaitinglaw7_LaneApart.f (k : Nat) (l0 : List Int) (l1 : List Int) : Option (Bool) := (plaitinglaw7_known.f).bind fun tAs => (if tAs = true then ((plaitinglaw1_Text.f k l0).bind fun tAe => (if tAe.size + 1 ≤ 9223372036854775807 then ((plaitinglaw1_Text.f k l1).bind fun tAf => (if tAf.size + 1 ≤ 9223372036854775807 then ((lane_New.f false).bind fun btAq => ((lane_New.f true).bind fun btAd => (plaitinglaw7_LaneApart.l0 k (tAe ++ (⟨#[46]⟩ : ByteArray)) (tAf ++ (⟨#[46]⟩ : ByteArray)) (⟨#[]⟩ : ByteArray) (⟨#[]⟩ : ByteArray) 0 btAq.1 btAq.2 btAd.1 btAd.2))) else (none))) else (none))) else (some false))
set_option maxHeartbeats 8000000 in
set_option maxRecDepth 100000 in
theorem plaitinglaw7_LaneApart.calls (k : Nat) (A0 : Option Addr) (c0 : Nat) (l0 : List Int) (A1 : Option Addr) (c1 : Nat) (l1 : List Int) (r : Bool) (w : World) (hr0 : Kd.C (Kd.int .i64) w A0 l0.length l0) (hc0 : l0.length ≤ c0) (hr1 : Kd.C (Kd.int .i64) w A1 l1.length l1) (hc1 : l1.length ≤ c1) (hrt : r = true) (h : plaitinglaw7_LaneApart.f k l0 l1 = some r) :
  Calls Try.prog 4 #[.slice A0 l0.length c0, .slice A1 l1.length c1] w fun e w' => e = .returned (.bool r) ∧ Below w.heap.size w w' := by
 have HRT := Aside0.mk hrt
 clear hrt
 have HR0 := Aside0.mk hr0
 have HC0 := Aside0.mk hc0
 clear hr0 hc0
 have HR1 := Aside0.mk hr1
 have HC1 := Aside0.mk hc1
 clear hr1 hc1
 have HB := Aside0.mk (Below.refl w.heap.size w)
 have H : ((plaitinglaw7_known.f).bind fun tAs => (if tAs = true then ((plaitinglaw1_Text.f k l0).bind fun tAe => (if tAe.size + 1 ≤ 9223372036854775807 then ((plaitinglaw1_Text.f k l1).bind fun tAf => (if tAf.size + 1 ≤ 9223372036854775807 then ((lane_New.f false).bind fun btAq => ((lane_New.f true).bind fun btAd => (plaitinglaw7_LaneApart.l0 k (tAe ++ (⟨#[46]⟩ : ByteArray)) (tAf ++ (⟨#[46]⟩ : ByteArray)) (⟨#[]⟩ : ByteArray) (⟨#[]⟩ : ByteArray) 0 btAq.1 btAq.2 btAd.1 btAd.2))) else (none))) else (none))) else (some false))) = some r := h
 clear h
 replace H := Option.bind_eq_some_iff.mp H
 obtain ⟨tAs, A30, H⟩ := H
 try dsimp only at H
 have A3 := Aside0.mk A30
 clear A30
 by_cases c4 : tAs = true
 rotate_left
 ·
  replace c4 := Bool.eq_false_iff.mpr c4
  subst c4
  have H1 : (some false) = some r := by rw [if_neg (show ¬ (false = true) by decide)] at H; exact H
  clear H
  have H := H1
  clear H1
  exact absurd ((Option.some.inj H).trans HRT.out) (by decide)
 subst c4
 have H1 : ((plaitinglaw1_Text.f k l0).bind fun tAe => (if tAe.size + 1 ≤ 9223372036854775807 then ((plaitinglaw1_Text.f k l1).bind fun tAf => (if tAf.size + 1 ≤ 9223372036854775807 then ((lane_New.f false).bind fun btAq => ((lane_New.f true).bind fun btAd => (plaitinglaw7_LaneApart.l0 k (tAe ++ (⟨#[46]⟩ : ByteArray)) (tAf ++ (⟨#[46]⟩ : ByteArray)) (⟨#[]⟩ : ByteArray) (⟨#[]⟩ : ByteArray) 0 btAq.1 btAq.2 btAd.1 btAd.2))) else (none))) else (none))) = some r := by rw [if_pos rfl] at H; exact H
 clear H
 have H := H1
 clear H1
 replace H := Option.bind_eq_some_iff.mp H
 obtain ⟨tAe, A50, H⟩ := H
 try dsimp only at H
 have A5 := Aside0.mk A50
 clear A50
 by_cases c6 : tAe.size + 1 ≤ 9223372036854775807
 rotate_left
 ·
  rw [if_neg c6] at H
  exact absurd H (by simp)
 rw [if_pos c6] at H
 have c6b0 := eq_true c6
 have c6b1 : decide (tAe.size + 1 ≤ 9223372036854775807) = true := decide_eq_true c6
 try have c6b2 : (9223372036854775807 < tAe.size + 1) = False := eq_false (Nat.not_lt.2 c6)
 replace H := Option.bind_eq_some_iff.mp H
 obtain ⟨tAf, A70, H⟩ := H
 try dsimp only at H
 have A7 := Aside0.mk A70
 clear A70
 by_cases c8 : tAf.size + 1 ≤ 9223372036854775807
 rotate_left
 ·
  rw [if_neg c8] at H
  exact absurd H (by simp)
 rw [if_pos c8] at H
 have c8b0 := eq_true c8
 have c8b1 : decide (tAf.size + 1 ≤ 9223372036854775807) = true := decide_eq_true c8
 try have c8b2 : (9223372036854775807 < tAf.size + 1) = False := eq_false (Nat.not_lt.2 c8)
 replace H := Option.bind_eq_some_iff.mp H
 obtain ⟨⟨tAq, tAy⟩, A90, H⟩ := H
 try dsimp only at H
 have A9 := Aside0.mk A90
 clear A90
 replace H := Option.bind_eq_some_iff.mp H
 obtain ⟨⟨tAd, tAz⟩, A100, H⟩ := H
 try dsimp only at H
 have A10 := Aside0.mk A100
 clear A100
 have H' := Aside0.mk H
 clear H
 go_enter Try.func4, Try.ntmps4
 go_wp2_with (first | ((with_reducible refine gate_callee (f := 5) rfl ?_); refine gL_ 16 Try.func5 #[] ?_; (with_reducible refine (plaitinglaw7_known.calls  true _ A3.out).mono ?_); rintro e w11 ⟨rfl, hb⟩; refine ⟨_, rfl, ?_⟩; replace HB := bs_ HB hb; (try clear hb); (try clear hb2); (try clear hk); (try clear hi)) | ((with_reducible refine gate_callee (f := 6) rfl ?_); refine gL_ 19 Try.func6 #[.slice A0 l0.length c0] ?_; (with_reducible refine (plaitinglaw1_Text.calls k _ _ l0 tAe _ ?side1 ?side2 A5.out).mono ?_); (case side1 => exact cC_ (Kd.C_below HR0.out HB.out)); (case side2 => exact HC0.out); rintro e w12 ⟨rfl, hb⟩; refine ⟨_, rfl, ?_⟩; replace HB := bs_ HB hb; (try clear hb); (try clear hb2); (try clear hk); (try clear hi)) | ((with_reducible refine gate_callee (f := 6) rfl ?_); refine gL_ 22 Try.func6 #[.slice A1 l1.length c1] ?_; (with_reducible refine (plaitinglaw1_Text.calls k _ _ l1 tAf _ ?side1 ?side2 A7.out).mono ?_); (case side1 => exact cC_ (Kd.C_below HR1.out HB.out)); (case side2 => exact HC1.out); rintro e w13 ⟨rfl, hb⟩; refine ⟨_, rfl, ?_⟩; replace HB := bs_ HB hb; (try clear hb); (try clear hb2); (try clear hk); (try clear hi)) | ((with_reducible refine gate_callee (f := 7) rfl ?_); refine gL_ 24 Try.func7 #[.bool false] ?_; (with_reducible refine (lane_New.calls false tAq tAy w _ ?side1 A9.out).mono ?_); (case side1 => repeat (first | (with_reducible first | exact HB.out | apply below_alloc | apply pw_below_drewN | apply below_drew1) | exact HB.out)); rintro e w14 ⟨gAa, rfl, hi, hb, hb2⟩; refine ⟨_, rfl, ?_⟩; have HIAa := Aside0.mk (hi); replace HB := Aside0.mk (hb); (try clear hb); (try clear hb2); (try clear hk); (try clear hi); (try clear hi0_)) | ((with_reducible refine gate_callee (f := 7) rfl ?_); refine gL_ 25 Try.func7 #[.bool true] ?_; (with_reducible refine (lane_New.calls true tAd tAz _ _ (Below.refl _ _) A10.out).mono ?_); rintro e w15 ⟨gAb, rfl, hi0_, _, hb2⟩; have hi : IsS38 w w15 gAb tAd tAz := ⟨hi0_.1, Nat.le_trans (below_size (show Below w.heap.size w _ from by repeat (first | (with_reducible first | exact HB.out | apply below_alloc | apply pw_below_drewN | apply below_drew1 | refine below_set ?_ (IsS38.ge HIAa.out)) | exact HB.out))) hi0_.2⟩; have hb := below_step (show Below w.heap.size w _ from by repeat (first | (with_reducible first | exact HB.out | apply below_alloc | apply pw_below_drewN | apply below_drew1 | refine below_set ?_ (IsS38.ge HIAa.out)) | exact HB.out)) hb2; refine ⟨_, rfl, ?_⟩; have HIAb := Aside0.mk (hi); have NSAa_Ab := Aside0.mk (Nat.ne_of_lt (Nat.lt_of_lt_of_le (IsS38.lt (show IsS38 w _ gAa tAq tAy from by repeat (first | (with_reducible first | exact HIAa.out | apply IsS38.alloc | apply IsS38.drewN | apply IsS38.drew | apply IsS38.set_0 | apply IsS38.set_1) | exact HIAa.out))) hi0_.2)); replace HIAa := Aside0.mk (IsS38.below (by repeat (first | (with_reducible first | exact HIAa.out | apply IsS38.alloc | apply IsS38.drewN | apply IsS38.drew | apply IsS38.set_0 | apply IsS38.set_1) | exact HIAa.out)) hb2); replace HB := Aside0.mk (hb); (try clear hb); (try clear hb2); (try clear hk); (try clear hi); (try clear hi0_)))
 go_loopg [9, 10, 11] k (fun kq v9 v10 v11 w' => ∃ (x9_1 : ByteArray) (x10_1 : ByteArray) (x11_1 : Int) (x8107000_1 : Bool) (x8107001_1 : Bool) (x8110000_1 : Bool) (x8110001_1 : Bool), v9 = .string x9_1 ∧ v10 = .string x10_1 ∧ v11 = .int .i64 x11_1 ∧ Aside0 (plaitinglaw7_LaneApart.l0 kq (tAe ++ (⟨#[46]⟩ : ByteArray)) (tAf ++ (⟨#[46]⟩ : ByteArray)) x9_1 x10_1 x11_1 x8107000_1 x8107001_1 x8110000_1 x8110001_1 = some r) ∧ Aside0 (kq ≤ k) ∧ Aside0 (IsS38 w w' gAa x8107000_1 x8107001_1) ∧ Aside0 (IsS38 w w' gAb x8110000_1 x8110001_1) ∧ Aside0 (Below w.heap.size w w'))
 case atStart => exact ⟨((⟨#[]⟩ : ByteArray)), ((⟨#[]⟩ : ByteArray)), (0), (tAq), (tAy), (tAd), (tAz), (by first | rfl | (simp; done) | (simp [*]; done)), (by first | rfl | (simp; done) | (simp [*]; done)), (by first | rfl | (simp; done) | (simp [*]; done)), H', ⟨Nat.le_refl _⟩, ⟨by repeat (first | (with_reducible first | exact HIAa.out | apply IsS38.alloc | apply IsS38.drewN | apply IsS38.drew | apply IsS38.set_0 | apply IsS38.set_1) | exact HIAa.out)⟩, ⟨by repeat (first | (with_reducible first | exact HIAb.out | apply IsS38.alloc | apply IsS38.drewN | apply IsS38.drew | apply IsS38.set_0 | apply IsS38.set_1) | exact HIAb.out)⟩, ⟨by repeat (first | (with_reducible first | exact HB.out | apply below_alloc | apply pw_below_drewN | apply below_drew1 | refine below_set ?_ (IsS38.ge HIAa.out) | refine below_set ?_ (IsS38.ge HIAb.out)) | exact HB.out)⟩⟩
 case round =>
  clear H'
  try clear c1
  try clear p2
  try clear c4
  try clear c5
  try clear c6
  try clear c6b0
  try clear c6b1
  try clear c6b2
  try clear c7
  try clear c8
  try clear c8b0
  try clear c8b1
  try clear c8b2
  obtain ⟨x9_1, x10_1, x11_1, x8107000_1, x8107001_1, x8110000_1, x8110001_1, rfl, rfl, rfl, HA, HK1, HIAa, HIAb, HB⟩ := hrel
  cases gk with
  | zero => exact absurd HA.out (by simp [plaitinglaw7_LaneApart.l0])
  | succ k1 =>
   have H := HA.out
   clear HA
   simp only [plaitinglaw7_LaneApart.l0] at H
   obtain ⟨ji16, hji16⟩ : ∃ j_ : Int, (mx ((tAe ++ (⟨#[46]⟩ : ByteArray)).size : Int) ((tAf ++ (⟨#[46]⟩ : ByteArray)).size : Int)) = j_ := ⟨_, rfl⟩
   replace H : (if x11_1 < (ji16) then (if x11_1 < ((tAe ++ (⟨#[46]⟩ : ByteArray)).size : Int) then (if 0 ≤ x11_1 then (plaitinglaw7_LaneApart.j1 k1 (tAe ++ (⟨#[46]⟩ : ByteArray)) (tAf ++ (⟨#[46]⟩ : ByteArray)) x9_1 x10_1 x11_1 (bt (tAe ++ (⟨#[46]⟩ : ByteArray)) x11_1) 46 x8107000_1 x8107001_1 x8110000_1 x8110001_1) else (none)) else (plaitinglaw7_LaneApart.j1 k1 (tAe ++ (⟨#[46]⟩ : ByteArray)) (tAf ++ (⟨#[46]⟩ : ByteArray)) x9_1 x10_1 x11_1 46 46 x8107000_1 x8107001_1 x8110000_1 x8110001_1)) else ((plaitingref1_Clean.f k1 (tAe ++ (⟨#[46]⟩ : ByteArray))).bind fun tAc => (if x9_1.toList = tAc.toList then ((plaitingref1_Clean.f k1 (tAf ++ (⟨#[46]⟩ : ByteArray))).bind fun tAt => (some (x10_1.toList == tAt.toList))) else (some false)))) = some r := by first | (rw [hji16] at H; exact H) | (simp only [hji16] at H ⊢; exact H)
   have hji16_ : (if ((tAe ++ (⟨#[46]⟩ : ByteArray)).size : Int) < ((tAf ++ (⟨#[46]⟩ : ByteArray)).size : Int) then ((tAf ++ (⟨#[46]⟩ : ByteArray)).size : Int) else ((tAe ++ (⟨#[46]⟩ : ByteArray)).size : Int)) = ji16 := hji16
   have hji16n := hji16_
   try simp only [Int.ofNat_lt] at hji16n
   by_cases c17 : x11_1 < (ji16)
   ·
    rw [if_pos c17] at H
    have c17b0 : decide (x11_1 < (ji16)) = true := decide_eq_true c17
    clear c17
    have HC18 := Aside0.mk H
    clear H
    go_upto_if 44 with (fail)
    go_cut [12] (fun v12 wc => ∃ (kq : Nat) (x12_17 : Int), v12 = .int .u8 x12_17 ∧ Aside0 (plaitinglaw7_LaneApart.j1 kq (tAe ++ (⟨#[46]⟩ : ByteArray)) (tAf ++ (⟨#[46]⟩ : ByteArray)) x9_1 x10_1 x11_1 x12_17 46 x8107000_1 x8107001_1 x8110000_1 x8110001_1 = some r) ∧ Aside0 (kq ≤ k1) ∧ Aside0 (IsS38 w wc gAa x8107000_1 x8107001_1) ∧ Aside0 (IsS38 w wc gAb x8110000_1 x8110001_1) ∧ Aside0 (Below w.heap.size w wc))
    case first =>
     have H := HC18.out
     clear HC18
     by_cases c19 : x11_1 < ((tAe ++ (⟨#[46]⟩ : ByteArray)).size : Int)
     rotate_left
     ·
      rw [if_neg c19] at H
      have c19b0 : decide (x11_1 < ((tAe ++ (⟨#[46]⟩ : ByteArray)).size : Int)) = false := decide_eq_false c19
      clear c19
      (first | rw [c19b0] | (simp only [i64_w, i32_w]; rw [c19b0]) | skip)
      have H' := Aside0.mk H
      clear H
      go_wp2
      go_meet
      case rel => exact ⟨_, (46), (by first | rfl | (simp; done) | (simp [*]; done)), H', ⟨by have := HK1.out; first | omega | exact Nat.le_refl _⟩, ⟨by repeat (first | (with_reducible first | exact HIAa.out | apply IsS38.alloc | apply IsS38.drewN | apply IsS38.drew | apply IsS38.set_0 | apply IsS38.set_1) | exact HIAa.out)⟩, ⟨by repeat (first | (with_reducible first | exact HIAb.out | apply IsS38.alloc | apply IsS38.drewN | apply IsS38.drew | apply IsS38.set_0 | apply IsS38.set_1) | exact HIAb.out)⟩, ⟨by repeat (first | (with_reducible first | exact HB.out | apply below_alloc | apply pw_below_drewN | apply below_drew1 | refine below_set ?_ (IsS38.ge HIAa.out) | refine below_set ?_ (IsS38.ge HIAb.out)) | exact HB.out)⟩⟩
     rw [if_pos c19] at H
     have c19b0 : decide (x11_1 < ((tAe ++ (⟨#[46]⟩ : ByteArray)).size : Int)) = true := decide_eq_true c19
     clear c19
     (first | rw [c19b0] | (simp only [i64_w, i32_w]; rw [c19b0]) | skip)
     by_cases c20 : 0 ≤ x11_1
     ·
      rw [if_pos c20] at H
      have c20b0 : decide (0 ≤ x11_1) = true := decide_eq_true c20
      clear c20
      have H' := Aside0.mk H
      clear H
      have p21 : 0 ≤ (x11_1 : Int) := of_decide_eq_true (by first | (with_reducible assumption) | assumption)
      have q21 : x11_1 < ((tAe ++ (⟨#[46]⟩ : ByteArray)).size : Int) := of_decide_eq_true (by first | (with_reducible assumption) | assumption)
      have hx21 := bt_at (tAe ++ (⟨#[46]⟩ : ByteArray)) x11_1
      replace p21 := eq_true p21
      replace q21 := eq_true q21
      go_wp2
      go_meet
      case rel => exact ⟨_, (bt (tAe ++ (⟨#[46]⟩ : ByteArray)) x11_1), (by first | rfl | (simp; done) | (simp [*]; done)), H', ⟨by have := HK1.out; first | omega | exact Nat.le_refl _⟩, ⟨by repeat (first | (with_reducible first | exact HIAa.out | apply IsS38.alloc | apply IsS38.drewN | apply IsS38.drew | apply IsS38.set_0 | apply IsS38.set_1) | exact HIAa.out)⟩, ⟨by repeat (first | (with_reducible first | exact HIAb.out | apply IsS38.alloc | apply IsS38.drewN | apply IsS38.drew | apply IsS38.set_0 | apply IsS38.set_1) | exact HIAb.out)⟩, ⟨by repeat (first | (with_reducible first | exact HB.out | apply below_alloc | apply pw_below_drewN | apply below_drew1 | refine below_set ?_ (IsS38.ge HIAa.out) | refine below_set ?_ (IsS38.ge HIAb.out)) | exact HB.out)⟩⟩
     rw [if_neg c20] at H
     exact absurd H (by simp)
    case rest =>
     clear HC18
     try clear c1
     try clear c2
     try clear p2
     try clear q2
     try clear hx2
     try clear c4
     try clear c5
     try clear c6
     try clear c6b0
     try clear c6b1
     try clear c6b2
     try clear c7
     try clear c8
     try clear c8b0
     try clear c8b1
     try clear c8b2
     try clear c17
     try clear c17b0
     try clear c19
     try clear c19b0
     try clear c20
     try clear c20b0
     try clear p21
     try clear q21
     try clear hx21
     try clear p2
     try clear p21
     try clear q21
     obtain ⟨kq, x12_17, rfl, HA, HJ17, HIAa, HIAb, HB⟩ := hcut
     cases kq with
     | zero => exact absurd HA.out (by simp [plaitinglaw7_LaneApart.j1])
     | succ kj17 =>
      have H := HA.out
      clear HA
      simp only [plaitinglaw7_LaneApart.j1] at H
      have HC22 := Aside0.mk H
      clear H
      go_upto_if 51 with (fail)
      go_cut [13] (fun v13 wc => ∃ (kq : Nat) (x13_21 : Int), v13 = .int .u8 x13_21 ∧ Aside0 (plaitinglaw7_LaneApart.j2 kq (tAe ++ (⟨#[46]⟩ : ByteArray)) (tAf ++ (⟨#[46]⟩ : ByteArray)) x9_1 x10_1 x11_1 x12_17 x13_21 x8107000_1 x8107001_1 x8110000_1 x8110001_1 = some r) ∧ Aside0 (kq ≤ kj17) ∧ Aside0 (IsS38 w wc gAa x8107000_1 x8107001_1) ∧ Aside0 (IsS38 w wc gAb x8110000_1 x8110001_1) ∧ Aside0 (Below w.heap.size w wc))
      case first =>
       have H := HC22.out
       clear HC22
       by_cases c23 : x11_1 < ((tAf ++ (⟨#[46]⟩ : ByteArray)).size : Int)
       rotate_left
       ·
        rw [if_neg c23] at H
        have c23b0 : decide (x11_1 < ((tAf ++ (⟨#[46]⟩ : ByteArray)).size : Int)) = false := decide_eq_false c23
        clear c23
        (first | rw [c23b0] | (simp only [i64_w, i32_w]; rw [c23b0]) | skip)
        have H' := Aside0.mk H
        clear H
        go_wp2
        go_meet
        case rel => exact ⟨_, (46), (by first | rfl | (simp; done) | (simp [*]; done)), H', ⟨by have := HK1.out; have := HJ17.out; first | omega | exact Nat.le_refl _⟩, ⟨by repeat (first | (with_reducible first | exact HIAa.out | apply IsS38.alloc | apply IsS38.drewN | apply IsS38.drew | apply IsS38.set_0 | apply IsS38.set_1) | exact HIAa.out)⟩, ⟨by repeat (first | (with_reducible first | exact HIAb.out | apply IsS38.alloc | apply IsS38.drewN | apply IsS38.drew | apply IsS38.set_0 | apply IsS38.set_1) | exact HIAb.out)⟩, ⟨by repeat (first | (with_reducible first | exact HB.out | apply below_alloc | apply pw_below_drewN | apply below_drew1 | refine below_set ?_ (IsS38.ge HIAa.out) | refine below_set ?_ (IsS38.ge HIAb.out)) | exact HB.out)⟩⟩
       rw [if_pos c23] at H
       have c23b0 : decide (x11_1 < ((tAf ++ (⟨#[46]⟩ : ByteArray)).size : Int)) = true := decide_eq_true c23
       clear c23
       (first | rw [c23b0] | (simp only [i64_w, i32_w]; rw [c23b0]) | skip)
       by_cases c24 : 0 ≤ x11_1
       ·
        rw [if_pos c24] at H
        have c24b0 : decide (0 ≤ x11_1) = true := decide_eq_true c24
        clear c24
        have H' := Aside0.mk H
        clear H
        have p25 : 0 ≤ (x11_1 : Int) := of_decide_eq_true (by first | (with_reducible assumption) | assumption)
        have q25 : x11_1 < ((tAf ++ (⟨#[46]⟩ : ByteArray)).size : Int) := of_decide_eq_true (by first | (with_reducible assumption) | assumption)
        have hx25 := bt_at (tAf ++ (⟨#[46]⟩ : ByteArray)) x11_1
        replace p25 := eq_true p25
        replace q25 := eq_true q25
        go_wp2
        go_meet
        case rel => exact ⟨_, (bt (tAf ++ (⟨#[46]⟩ : ByteArray)) x11_1), (by first | rfl | (simp; done) | (simp [*]; done)), H', ⟨by have := HK1.out; have := HJ17.out; first | omega | exact Nat.le_refl _⟩, ⟨by repeat (first | (with_reducible first | exact HIAa.out | apply IsS38.alloc | apply IsS38.drewN | apply IsS38.drew | apply IsS38.set_0 | apply IsS38.set_1) | exact HIAa.out)⟩, ⟨by repeat (first | (with_reducible first | exact HIAb.out | apply IsS38.alloc | apply IsS38.drewN | apply IsS38.drew | apply IsS38.set_0 | apply IsS38.set_1) | exact HIAb.out)⟩, ⟨by repeat (first | (with_reducible first | exact HB.out | apply below_alloc | apply pw_below_drewN | apply below_drew1 | refine below_set ?_ (IsS38.ge HIAa.out) | refine below_set ?_ (IsS38.ge HIAb.out)) | exact HB.out)⟩⟩
       rw [if_neg c24] at H
       exact absurd H (by simp)
      case rest =>
       clear HC22
       try clear c1
       try clear c2
       try clear p2
       try clear q2
       try clear hx2
       try clear c4
       try clear c5
       try clear c6
       try clear c6b0
       try clear c6b1
       try clear c6b2
       try clear c7
       try clear c8
       try clear c8b0
       try clear c8b1
       try clear c8b2
       try clear c17
       try clear c17b0
       try clear c19
       try clear c19b0
       try clear c20
       try clear c20b0
       try clear p21
       try clear q21
       try clear hx21
       try clear c23
       try clear c23b0
       try clear c24
       try clear c24b0
       try clear p25
       try clear q25
       try clear hx25
       try clear p2
       try clear p21
       try clear p25
       try clear q2
       try clear q21
       try clear q25
       obtain ⟨kq, x13_21, rfl, HA, HJ21, HIAa, HIAb, HB⟩ := hcut
       cases kq with
       | zero => exact absurd HA.out (by simp [plaitinglaw7_LaneApart.j2])
       | succ kj21 =>
        have H := HA.out
        clear HA
        simp only [plaitinglaw7_LaneApart.j2] at H
        replace H := Option.bind_eq_some_iff.mp H
        obtain ⟨⟨tAg, tAi, tAj⟩, A260, H⟩ := H
        try dsimp only at H
        have A26 := Aside0.mk A260
        clear A260
        by_cases c27 : tAg = 46
        ·
         rw [if_pos c27] at H
         have c27b0 : (tAg == 46) = true := beq_iff_eq.mpr c27
         have c27b1 : (tAg != 46) = false := bne_eq_false_iff_eq.mpr c27
         clear c27
         replace H := Option.bind_eq_some_iff.mp H
         obtain ⟨⟨tAn, tAu, tAv⟩, A280, H⟩ := H
         try dsimp only at H
         have A28 := Aside0.mk A280
         clear A280
         by_cases c29 : tAn = 46
         ·
          rw [if_pos c29] at H
          have c29b0 : (tAn == 46) = true := beq_iff_eq.mpr c29
          have c29b1 : (tAn != 46) = false := bne_eq_false_iff_eq.mpr c29
          clear c29
          have H' := Aside0.mk H
          clear H
          go_wp2_with (first | ((with_reducible refine gate_callee (f := 9) rfl ?_); refine gL_ 58 Try.func9 #[.pointer (some ⟨gAa, 0, none⟩), .int .u8 x12_17, .int .u8 x13_21] ?_; (with_reducible refine (lane_Lane_Step.calls gAa x8107000_1 x8107001_1 x12_17 x13_21 tAg tAi tAj w _ ?side1 ?side2 A26.out).mono ?_); (case side1 => repeat (first | (with_reducible first | exact HIAa.out | apply IsS38.alloc | apply IsS38.drewN | apply IsS38.drew | apply IsS38.set_0 | apply IsS38.set_1) | exact HIAa.out)); (case side2 => repeat (first | (with_reducible first | exact HB.out | apply below_alloc | apply pw_below_drewN | apply below_drew1 | refine below_set ?_ (IsS38.ge HIAa.out) | refine below_set ?_ (IsS38.ge HIAb.out)) | exact HB.out)); rintro e w30 ⟨rfl, hi, hb, hk⟩; refine ⟨_, rfl, ?_⟩; replace HIAb := Aside0.mk ((show IsS38 w _ gAb x8110000_1 x8110001_1 from ⟨KeepBut.blk hk (show IsS38 w _ gAb x8110000_1 x8110001_1 from by repeat (first | (with_reducible first | exact HIAb.out | apply IsS38.alloc | apply IsS38.drewN | apply IsS38.drew | apply IsS38.set_0 | apply IsS38.set_1) | exact HIAb.out)).1 (Ne.symm NSAa_Ab.out) (by simp), (show IsS38 w _ gAb x8110000_1 x8110001_1 from by repeat (first | (with_reducible first | exact HIAb.out | apply IsS38.alloc | apply IsS38.drewN | apply IsS38.drew | apply IsS38.set_0 | apply IsS38.set_1) | exact HIAb.out)).2⟩)); replace HB := Aside0.mk (hb); replace HIAa := Aside0.mk (hi); (try clear hb); (try clear hb2); (try clear hk); (try clear hi)) | ((with_reducible refine gate_callee (f := 9) rfl ?_); refine gL_ 69 Try.func9 #[.pointer (some ⟨gAb, 0, none⟩), .int .u8 x13_21, .int .u8 x13_21] ?_; (with_reducible refine (lane_Lane_Step.calls gAb x8110000_1 x8110001_1 x13_21 x13_21 tAn tAu tAv w _ ?side1 ?side2 A28.out).mono ?_); (case side1 => repeat (first | (with_reducible first | exact HIAb.out | apply IsS38.alloc | apply IsS38.drewN | apply IsS38.drew | apply IsS38.set_0 | apply IsS38.set_1) | exact HIAb.out)); (case side2 => repeat (first | (with_reducible first | exact HB.out | apply below_alloc | apply pw_below_drewN | apply below_drew1 | refine below_set ?_ (IsS38.ge HIAa.out) | refine below_set ?_ (IsS38.ge HIAb.out)) | exact HB.out)); rintro e w31 ⟨rfl, hi, hb, hk⟩; refine ⟨_, rfl, ?_⟩; replace HIAa := Aside0.mk ((show IsS38 w _ gAa tAi tAj from ⟨KeepBut.blk hk (show IsS38 w _ gAa tAi tAj from by repeat (first | (with_reducible first | exact HIAa.out | apply IsS38.alloc | apply IsS38.drewN | apply IsS38.drew | apply IsS38.set_0 | apply IsS38.set_1) | exact HIAa.out)).1 NSAa_Ab.out (by simp), (show IsS38 w _ gAa tAi tAj from by repeat (first | (with_reducible first | exact HIAa.out | apply IsS38.alloc | apply IsS38.drewN | apply IsS38.drew | apply IsS38.set_0 | apply IsS38.set_1) | exact HIAa.out)).2⟩)); replace HB := Aside0.mk (hb); replace HIAb := Aside0.mk (hi); (try clear hb); (try clear hb2); (try clear hk); (try clear hi)))
          go_roundg kj21
          case measure => have := HK1.out; have := HJ17.out; have := HJ21.out; omega
          case rel => exact ⟨(x9_1), (x10_1), (wrap64 (x11_1 + 1)), (tAi), (tAj), (tAu), (tAv), (by first | rfl | (simp; done) | (simp [*]; done)), (by first | rfl | (simp; done) | (simp [*]; done)), (by first | rfl | (simp; done) | (simp [*]; done)), H', ⟨by have := HK1.out; have := HJ17.out; have := HJ21.out; omega⟩, ⟨by repeat (first | (with_reducible first | exact HIAa.out | apply IsS38.alloc | apply IsS38.drewN | apply IsS38.drew | apply IsS38.set_0 | apply IsS38.set_1) | exact HIAa.out)⟩, ⟨by repeat (first | (with_reducible first | exact HIAb.out | apply IsS38.alloc | apply IsS38.drewN | apply IsS38.drew | apply IsS38.set_0 | apply IsS38.set_1) | exact HIAb.out)⟩, ⟨by repeat (first | (with_reducible first | exact HB.out | apply below_alloc | apply pw_below_drewN | apply below_drew1 | refine below_set ?_ (IsS38.ge HIAa.out) | refine below_set ?_ (IsS38.ge HIAb.out)) | exact HB.out)⟩⟩
         rw [if_neg c29] at H
         have c29b0 : (tAn == 46) = false := beq_eq_false_iff_ne.mpr c29
         have c29b1 : (tAn != 46) = true := bne_iff_ne.mpr c29
         obtain ⟨yAp, hyAp⟩ : ∃ y_ : List Int, y_ = (([tAn] : List Int)) := ⟨_, rfl⟩
         replace H : (if x10_1.size + (strOfNums yAp).size ≤ 9223372036854775807 then (plaitinglaw7_LaneApart.l0 kj21 (tAe ++ (⟨#[46]⟩ : ByteArray)) (tAf ++ (⟨#[46]⟩ : ByteArray)) x9_1 (x10_1 ++ (strOfNums yAp)) (wrap64 (x11_1 + 1)) tAi tAj tAu tAv) else (none)) = some r := by first | (rw [hyAp]; with_reducible exact H) | (have H2_ := (Option.bind_some _ _).symm.trans H; rw [hyAp]; with_reducible exact H2_) | (have H2_ := (Option.bind_some _ _).symm.trans H; with_reducible exact H2_) | with_reducible exact H | (rw [hyAp]; exact H) | exact H
         have NyAp := Aside0.mk hyAp
         clear hyAp
         by_cases c32 : x10_1.size + (strOfNums yAp).size ≤ 9223372036854775807
         ·
          rw [if_pos c32] at H
          have c32b0 := eq_true c32
          have c32b1 : decide (x10_1.size + (strOfNums yAp).size ≤ 9223372036854775807) = true := decide_eq_true c32
          try have c32b2 : (9223372036854775807 < x10_1.size + (strOfNums yAp).size) = False := eq_false (Nat.not_lt.2 c32)
          have H' := Aside0.mk H
          clear H
          go_wp2_with (first | ((with_reducible refine gate_callee (f := 9) rfl ?_); refine gL_ 58 Try.func9 #[.pointer (some ⟨gAa, 0, none⟩), .int .u8 x12_17, .int .u8 x13_21] ?_; (with_reducible refine (lane_Lane_Step.calls gAa x8107000_1 x8107001_1 x12_17 x13_21 tAg tAi tAj w _ ?side1 ?side2 A26.out).mono ?_); (case side1 => repeat (first | (with_reducible first | exact HIAa.out | apply IsS38.alloc | apply IsS38.drewN | apply IsS38.drew | apply IsS38.set_0 | apply IsS38.set_1) | exact HIAa.out)); (case side2 => repeat (first | (with_reducible first | exact HB.out | apply below_alloc | apply pw_below_drewN | apply below_drew1 | refine below_set ?_ (IsS38.ge HIAa.out) | refine below_set ?_ (IsS38.ge HIAb.out)) | exact HB.out)); rintro e w33 ⟨rfl, hi, hb, hk⟩; refine ⟨_, rfl, ?_⟩; replace HIAb := Aside0.mk ((show IsS38 w _ gAb x8110000_1 x8110001_1 from ⟨KeepBut.blk hk (show IsS38 w _ gAb x8110000_1 x8110001_1 from by repeat (first | (with_reducible first | exact HIAb.out | apply IsS38.alloc | apply IsS38.drewN | apply IsS38.drew | apply IsS38.set_0 | apply IsS38.set_1) | exact HIAb.out)).1 (Ne.symm NSAa_Ab.out) (by simp), (show IsS38 w _ gAb x8110000_1 x8110001_1 from by repeat (first | (with_reducible first | exact HIAb.out | apply IsS38.alloc | apply IsS38.drewN | apply IsS38.drew | apply IsS38.set_0 | apply IsS38.set_1) | exact HIAb.out)).2⟩)); replace HB := Aside0.mk (hb); replace HIAa := Aside0.mk (hi); (try clear hb); (try clear hb2); (try clear hk); (try clear hi)) | ((with_reducible refine gate_callee (f := 9) rfl ?_); refine gL_ 69 Try.func9 #[.pointer (some ⟨gAb, 0, none⟩), .int .u8 x13_21, .int .u8 x13_21] ?_; (with_reducible refine (lane_Lane_Step.calls gAb x8110000_1 x8110001_1 x13_21 x13_21 tAn tAu tAv w _ ?side1 ?side2 A28.out).mono ?_); (case side1 => repeat (first | (with_reducible first | exact HIAb.out | apply IsS38.alloc | apply IsS38.drewN | apply IsS38.drew | apply IsS38.set_0 | apply IsS38.set_1) | exact HIAb.out)); (case side2 => repeat (first | (with_reducible first | exact HB.out | apply below_alloc | apply pw_below_drewN | apply below_drew1 | refine below_set ?_ (IsS38.ge HIAa.out) | refine below_set ?_ (IsS38.ge HIAb.out)) | exact HB.out)); rintro e w34 ⟨rfl, hi, hb, hk⟩; refine ⟨_, rfl, ?_⟩; replace HIAa := Aside0.mk ((show IsS38 w _ gAa tAi tAj from ⟨KeepBut.blk hk (show IsS38 w _ gAa tAi tAj from by repeat (first | (with_reducible first | exact HIAa.out | apply IsS38.alloc | apply IsS38.drewN | apply IsS38.drew | apply IsS38.set_0 | apply IsS38.set_1) | exact HIAa.out)).1 NSAa_Ab.out (by simp), (show IsS38 w _ gAa tAi tAj from by repeat (first | (with_reducible first | exact HIAa.out | apply IsS38.alloc | apply IsS38.drewN | apply IsS38.drew | apply IsS38.set_0 | apply IsS38.set_1) | exact HIAa.out)).2⟩)); replace HB := Aside0.mk (hb); replace HIAb := Aside0.mk (hi); (try clear hb); (try clear hb2); (try clear hk); (try clear hi)) | ((with_reducible refine gate_dst (N := 74) rfl ?_); refine Kd.R_lit (Kd.int .u8) _ 5 ?hg (N := 74) ?hd (xs := ([tAn] : List Int)) (inner := [.int .u8 tAn]) (ok := fun _ => True) (okp := fun _ => True) ?hr ?hp (fun _ hk => hk) trivial (Below.refl _ _) (Nat.le_refl _) (by simp) ?_; (case hd => rfl); (case hg => rfl); (case hr => first | (go_simp; done) | (go_simp; rfl)); (case hp => exact (Reps.one (show Kd.M (Kd.int .u8) _ _ _ tAn [.int .u8 tAn] from rfl) (Reps.none _ _))); intro vBd w35 ho36 hb hg_ hnew_; clear hg_ hnew_; (first | rw [← NyAp.out] at ho36 | (simp only [Int.reduceToNat] at ho36; rw [← NyAp.out] at ho36)); have HOBa := Aside0.mk (Kd.R_lower ho36 (below_size (by repeat (first | (with_reducible first | exact HB.out | apply below_alloc | apply pw_below_drewN | apply below_drew1 | refine below_set ?_ (IsS38.ge HIAa.out) | refine below_set ?_ (IsS38.ge HIAb.out)) | exact HB.out)))); replace HB := Aside0.mk (below_step (by repeat (first | (with_reducible first | exact HB.out | apply below_alloc | apply pw_below_drewN | apply below_drew1 | refine below_set ?_ (IsS38.ge HIAa.out) | refine below_set ?_ (IsS38.ge HIAb.out)) | exact HB.out)) hb); replace HIAa := Aside0.mk (IsS38.below (by repeat (first | (with_reducible first | exact HIAa.out | apply IsS38.alloc | apply IsS38.drewN | apply IsS38.drew | apply IsS38.set_0 | apply IsS38.set_1) | exact HIAa.out)) hb); replace HIAb := Aside0.mk (IsS38.below (by repeat (first | (with_reducible first | exact HIAb.out | apply IsS38.alloc | apply IsS38.drewN | apply IsS38.drew | apply IsS38.set_0 | apply IsS38.set_1) | exact HIAb.out)) hb); clear hb ho36; have hcv37 := own_string (P := Try.prog) Try.underlying23 Try.underlying5 Try.underlying9 (Kd.own_of_R HOBa.out)))
          go_roundg kj21
          case measure => have := HK1.out; have := HJ17.out; have := HJ21.out; omega
          case rel => exact ⟨(x9_1), (x10_1 ++ (strOfNums yAp)), (wrap64 (x11_1 + 1)), (tAi), (tAj), (tAu), (tAv), (by first | rfl | (simp; done) | (simp [*]; done)), (by first | rfl | (simp; done) | (simp [*]; done)), (by first | rfl | (simp; done) | (simp [*]; done)), H', ⟨by have := HK1.out; have := HJ17.out; have := HJ21.out; omega⟩, ⟨by repeat (first | (with_reducible first | exact HIAa.out | apply IsS38.alloc | apply IsS38.drewN | apply IsS38.drew | apply IsS38.set_0 | apply IsS38.set_1) | exact HIAa.out)⟩, ⟨by repeat (first | (with_reducible first | exact HIAb.out | apply IsS38.alloc | apply IsS38.drewN | apply IsS38.drew | apply IsS38.set_0 | apply IsS38.set_1) | exact HIAb.out)⟩, ⟨by repeat (first | (with_reducible first | exact HB.out | apply below_alloc | apply pw_below_drewN | apply below_drew1 | refine below_set ?_ (IsS38.ge HIAa.out) | refine below_set ?_ (IsS38.ge HIAb.out)) | exact HB.out)⟩⟩
         rw [if_neg c32] at H
         exact absurd H (by simp)
        rw [if_neg c27] at H
        have c27b0 : (tAg == 46) = false := beq_eq_false_iff_ne.mpr c27
        have c27b1 : (tAg != 46) = true := bne_iff_ne.mpr c27
        obtain ⟨yAk, hyAk⟩ : ∃ y_ : List Int, y_ = (([tAg] : List Int)) := ⟨_, rfl⟩
        replace H : (if x9_1.size + (strOfNums yAk).size ≤ 9223372036854775807 then ((lane_Lane_Step.f x8110000_1 x8110001_1 x13_21 x13_21).bind fun btAh => (if btAh.1 = 46 then (plaitinglaw7_LaneApart.l0 kj21 (tAe ++ (⟨#[46]⟩ : ByteArray)) (tAf ++ (⟨#[46]⟩ : ByteArray)) (x9_1 ++ (strOfNums yAk)) x10_1 (wrap64 (x11_1 + 1)) tAi tAj btAh.2.1 btAh.2.2) else ((some (([btAh.1] : List Int) : List Int)).bind fun yAm => (if x10_1.size + (strOfNums yAm).size ≤ 9223372036854775807 then (plaitinglaw7_LaneApart.l0 kj21 (tAe ++ (⟨#[46]⟩ : ByteArray)) (tAf ++ (⟨#[46]⟩ : ByteArray)) (x9_1 ++ (strOfNums yAk)) (x10_1 ++ (strOfNums yAm)) (wrap64 (x11_1 + 1)) tAi tAj btAh.2.1 btAh.2.2) else (none))))) else (none)) = some r := by first | (rw [hyAk]; with_reducible exact H) | (have H2_ := (Option.bind_some _ _).symm.trans H; rw [hyAk]; with_reducible exact H2_) | (have H2_ := (Option.bind_some _ _).symm.trans H; with_reducible exact H2_) | with_reducible exact H | (rw [hyAk]; exact H) | exact H
        have NyAk := Aside0.mk hyAk
        clear hyAk
        by_cases c38 : x9_1.size + (strOfNums yAk).size ≤ 9223372036854775807
        rotate_left
        ·
         rw [if_neg c38] at H
         exact absurd H (by simp)
        rw [if_pos c38] at H
        have c38b0 := eq_true c38
        have c38b1 : decide (x9_1.size + (strOfNums yAk).size ≤ 9223372036854775807) = true := decide_eq_true c38
        try have c38b2 : (9223372036854775807 < x9_1.size + (strOfNums yAk).size) = False := eq_false (Nat.not_lt.2 c38)
        replace H := Option.bind_eq_some_iff.mp H
        obtain ⟨⟨tAh, tAw, tAx⟩, A390, H⟩ := H
        try dsimp only at H
        have A39 := Aside0.mk A390
        clear A390
        by_cases c40 : tAh = 46
        ·
         rw [if_pos c40] at H
         have c40b0 : (tAh == 46) = true := beq_iff_eq.mpr c40
         have c40b1 : (tAh != 46) = false := bne_eq_false_iff_eq.mpr c40
         clear c40
         have H' := Aside0.mk H
         clear H
         go_wp2_with (first | ((with_reducible refine gate_callee (f := 9) rfl ?_); refine gL_ 58 Try.func9 #[.pointer (some ⟨gAa, 0, none⟩), .int .u8 x12_17, .int .u8 x13_21] ?_; (with_reducible refine (lane_Lane_Step.calls gAa x8107000_1 x8107001_1 x12_17 x13_21 tAg tAi tAj w _ ?side1 ?side2 A26.out).mono ?_); (case side1 => repeat (first | (with_reducible first | exact HIAa.out | apply IsS38.alloc | apply IsS38.drewN | apply IsS38.drew | apply IsS38.set_0 | apply IsS38.set_1) | exact HIAa.out)); (case side2 => repeat (first | (with_reducible first | exact HB.out | apply below_alloc | apply pw_below_drewN | apply below_drew1 | refine below_set ?_ (IsS38.ge HIAa.out) | refine below_set ?_ (IsS38.ge HIAb.out)) | exact HB.out)); rintro e w41 ⟨rfl, hi, hb, hk⟩; refine ⟨_, rfl, ?_⟩; replace HIAb := Aside0.mk ((show IsS38 w _ gAb x8110000_1 x8110001_1 from ⟨KeepBut.blk hk (show IsS38 w _ gAb x8110000_1 x8110001_1 from by repeat (first | (with_reducible first | exact HIAb.out | apply IsS38.alloc | apply IsS38.drewN | apply IsS38.drew | apply IsS38.set_0 | apply IsS38.set_1) | exact HIAb.out)).1 (Ne.symm NSAa_Ab.out) (by simp), (show IsS38 w _ gAb x8110000_1 x8110001_1 from by repeat (first | (with_reducible first | exact HIAb.out | apply IsS38.alloc | apply IsS38.drewN | apply IsS38.drew | apply IsS38.set_0 | apply IsS38.set_1) | exact HIAb.out)).2⟩)); replace HB := Aside0.mk (hb); replace HIAa := Aside0.mk (hi); (try clear hb); (try clear hb2); (try clear hk); (try clear hi)) | ((with_reducible refine gate_dst (N := 63) rfl ?_); refine Kd.R_lit (Kd.int .u8) _ 5 ?hg (N := 63) ?hd (xs := ([tAg] : List Int)) (inner := [.int .u8 tAg]) (ok := fun _ => True) (okp := fun _ => True) ?hr ?hp (fun _ hk => hk) trivial (Below.refl _ _) (Nat.le_refl _) (by simp) ?_; (case hd => rfl); (case hg => rfl); (case hr => first | (go_simp; done) | (go_simp; rfl)); (case hp => exact (Reps.one (show Kd.M (Kd.int .u8) _ _ _ tAg [.int .u8 tAg] from rfl) (Reps.none _ _))); intro vBb w42 ho43 hb hg_ hnew_; clear hg_ hnew_; (first | rw [← NyAk.out] at ho43 | (simp only [Int.reduceToNat] at ho43; rw [← NyAk.out] at ho43)); have HOAr := Aside0.mk (Kd.R_lower ho43 (below_size (by repeat (first | (with_reducible first | exact HB.out | apply below_alloc | apply pw_below_drewN | apply below_drew1 | refine below_set ?_ (IsS38.ge HIAa.out) | refine below_set ?_ (IsS38.ge HIAb.out)) | exact HB.out)))); replace HB := Aside0.mk (below_step (by repeat (first | (with_reducible first | exact HB.out | apply below_alloc | apply pw_below_drewN | apply below_drew1 | refine below_set ?_ (IsS38.ge HIAa.out) | refine below_set ?_ (IsS38.ge HIAb.out)) | exact HB.out)) hb); replace HIAa := Aside0.mk (IsS38.below (by repeat (first | (with_reducible first | exact HIAa.out | apply IsS38.alloc | apply IsS38.drewN | apply IsS38.drew | apply IsS38.set_0 | apply IsS38.set_1) | exact HIAa.out)) hb); replace HIAb := Aside0.mk (IsS38.below (by repeat (first | (with_reducible first | exact HIAb.out | apply IsS38.alloc | apply IsS38.drewN | apply IsS38.drew | apply IsS38.set_0 | apply IsS38.set_1) | exact HIAb.out)) hb); clear hb ho43; have hcv44 := own_string (P := Try.prog) Try.underlying23 Try.underlying5 Try.underlying9 (Kd.own_of_R HOAr.out)) | ((with_reducible refine gate_callee (f := 9) rfl ?_); refine gL_ 69 Try.func9 #[.pointer (some ⟨gAb, 0, none⟩), .int .u8 x13_21, .int .u8 x13_21] ?_; (with_reducible refine (lane_Lane_Step.calls gAb x8110000_1 x8110001_1 x13_21 x13_21 tAh tAw tAx w _ ?side1 ?side2 A39.out).mono ?_); (case side1 => repeat (first | (with_reducible first | exact HIAb.out | apply IsS38.alloc | apply IsS38.drewN | apply IsS38.drew | apply IsS38.set_0 | apply IsS38.set_1) | exact HIAb.out)); (case side2 => repeat (first | (with_reducible first | exact HB.out | apply below_alloc | apply pw_below_drewN | apply below_drew1 | refine below_set ?_ (IsS38.ge HIAa.out) | refine below_set ?_ (IsS38.ge HIAb.out)) | exact HB.out)); rintro e w45 ⟨rfl, hi, hb, hk⟩; refine ⟨_, rfl, ?_⟩; replace HIAa := Aside0.mk ((show IsS38 w _ gAa tAi tAj from ⟨KeepBut.blk hk (show IsS38 w _ gAa tAi tAj from by repeat (first | (with_reducible first | exact HIAa.out | apply IsS38.alloc | apply IsS38.drewN | apply IsS38.drew | apply IsS38.set_0 | apply IsS38.set_1) | exact HIAa.out)).1 NSAa_Ab.out (by simp), (show IsS38 w _ gAa tAi tAj from by repeat (first | (with_reducible first | exact HIAa.out | apply IsS38.alloc | apply IsS38.drewN | apply IsS38.drew | apply IsS38.set_0 | apply IsS38.set_1) | exact HIAa.out)).2⟩)); replace HOAr := Aside0.mk (Kd.R_mono (Kd.R_keep (IsS38.apart (show IsS38 w _ gAb x8110000_1 x8110001_1 from by repeat (first | (with_reducible first | exact HIAb.out | apply IsS38.alloc | apply IsS38.drewN | apply IsS38.drew | apply IsS38.set_0 | apply IsS38.set_1) | exact HIAb.out)) (pR_ HOAr.out) (by decide)) hk (fun _ h => h.2)) (fun _ h => h.1)); replace HB := Aside0.mk (hb); replace HIAb := Aside0.mk (hi); (try clear hb); (try clear hb2); (try clear hk); (try clear hi)))
         go_roundg kj21
         case measure => have := HK1.out; have := HJ17.out; have := HJ21.out; omega
         case rel => exact ⟨(x9_1 ++ (strOfNums yAk)), (x10_1), (wrap64 (x11_1 + 1)), (tAi), (tAj), (tAw), (tAx), (by first | rfl | (simp; done) | (simp [*]; done)), (by first | rfl | (simp; done) | (simp [*]; done)), (by first | rfl | (simp; done) | (simp [*]; done)), H', ⟨by have := HK1.out; have := HJ17.out; have := HJ21.out; omega⟩, ⟨by repeat (first | (with_reducible first | exact HIAa.out | apply IsS38.alloc | apply IsS38.drewN | apply IsS38.drew | apply IsS38.set_0 | apply IsS38.set_1) | exact HIAa.out)⟩, ⟨by repeat (first | (with_reducible first | exact HIAb.out | apply IsS38.alloc | apply IsS38.drewN | apply IsS38.drew | apply IsS38.set_0 | apply IsS38.set_1) | exact HIAb.out)⟩, ⟨by repeat (first | (with_reducible first | exact HB.out | apply below_alloc | apply pw_below_drewN | apply below_drew1 | refine below_set ?_ (IsS38.ge HIAa.out) | refine below_set ?_ (IsS38.ge HIAb.out)) | exact HB.out)⟩⟩
        rw [if_neg c40] at H
        have c40b0 : (tAh == 46) = false := beq_eq_false_iff_ne.mpr c40
        have c40b1 : (tAh != 46) = true := bne_iff_ne.mpr c40
        obtain ⟨yAm, hyAm⟩ : ∃ y_ : List Int, y_ = (([tAh] : List Int)) := ⟨_, rfl⟩
        replace H : (if x10_1.size + (strOfNums yAm).size ≤ 9223372036854775807 then (plaitinglaw7_LaneApart.l0 kj21 (tAe ++ (⟨#[46]⟩ : ByteArray)) (tAf ++ (⟨#[46]⟩ : ByteArray)) (x9_1 ++ (strOfNums yAk)) (x10_1 ++ (strOfNums yAm)) (wrap64 (x11_1 + 1)) tAi tAj tAw tAx) else (none)) = some r := by first | (rw [hyAm]; with_reducible exact H) | (have H2_ := (Option.bind_some _ _).symm.trans H; rw [hyAm]; with_reducible exact H2_) | (have H2_ := (Option.bind_some _ _).symm.trans H; with_reducible exact H2_) | with_reducible exact H | (rw [hyAm]; exact H) | exact H
        have NyAm := Aside0.mk hyAm
        clear hyAm
        by_cases c46 : x10_1.size + (strOfNums yAm).size ≤ 9223372036854775807
        ·
         rw [if_pos c46] at H
         have c46b0 := eq_true c46
         have c46b1 : decide (x10_1.size + (strOfNums yAm).size ≤ 9223372036854775807) = true := decide_eq_true c46
         try have c46b2 : (9223372036854775807 < x10_1.size + (strOfNums yAm).size) = False := eq_false (Nat.not_lt.2 c46)
         have H' := Aside0.mk H
         clear H
         go_wp2_with (first | ((with_reducible refine gate_callee (f := 9) rfl ?_); refine gL_ 58 Try.func9 #[.pointer (some ⟨gAa, 0, none⟩), .int .u8 x12_17, .int .u8 x13_21] ?_; (with_reducible refine (lane_Lane_Step.calls gAa x8107000_1 x8107001_1 x12_17 x13_21 tAg tAi tAj w _ ?side1 ?side2 A26.out).mono ?_); (case side1 => repeat (first | (with_reducible first | exact HIAa.out | apply IsS38.alloc | apply IsS38.drewN | apply IsS38.drew | apply IsS38.set_0 | apply IsS38.set_1) | exact HIAa.out)); (case side2 => repeat (first | (with_reducible first | exact HB.out | apply below_alloc | apply pw_below_drewN | apply below_drew1 | refine below_set ?_ (IsS38.ge HIAa.out) | refine below_set ?_ (IsS38.ge HIAb.out)) | exact HB.out)); rintro e w47 ⟨rfl, hi, hb, hk⟩; refine ⟨_, rfl, ?_⟩; replace HIAb := Aside0.mk ((show IsS38 w _ gAb x8110000_1 x8110001_1 from ⟨KeepBut.blk hk (show IsS38 w _ gAb x8110000_1 x8110001_1 from by repeat (first | (with_reducible first | exact HIAb.out | apply IsS38.alloc | apply IsS38.drewN | apply IsS38.drew | apply IsS38.set_0 | apply IsS38.set_1) | exact HIAb.out)).1 (Ne.symm NSAa_Ab.out) (by simp), (show IsS38 w _ gAb x8110000_1 x8110001_1 from by repeat (first | (with_reducible first | exact HIAb.out | apply IsS38.alloc | apply IsS38.drewN | apply IsS38.drew | apply IsS38.set_0 | apply IsS38.set_1) | exact HIAb.out)).2⟩)); replace HB := Aside0.mk (hb); replace HIAa := Aside0.mk (hi); (try clear hb); (try clear hb2); (try clear hk); (try clear hi)) | ((with_reducible refine gate_dst (N := 63) rfl ?_); refine Kd.R_lit (Kd.int .u8) _ 5 ?hg (N := 63) ?hd (xs := ([tAg] : List Int)) (inner := [.int .u8 tAg]) (ok := fun _ => True) (okp := fun _ => True) ?hr ?hp (fun _ hk => hk) trivial (Below.refl _ _) (Nat.le_refl _) (by simp) ?_; (case hd => rfl); (case hg => rfl); (case hr => first | (go_simp; done) | (go_simp; rfl)); (case hp => exact (Reps.one (show Kd.M (Kd.int .u8) _ _ _ tAg [.int .u8 tAg] from rfl) (Reps.none _ _))); intro vBb w48 ho49 hb hg_ hnew_; clear hg_ hnew_; (first | rw [← NyAk.out] at ho49 | (simp only [Int.reduceToNat] at ho49; rw [← NyAk.out] at ho49)); have HOAr := Aside0.mk (Kd.R_lower ho49 (below_size (by repeat (first | (with_reducible first | exact HB.out | apply below_alloc | apply pw_below_drewN | apply below_drew1 | refine below_set ?_ (IsS38.ge HIAa.out) | refine below_set ?_ (IsS38.ge HIAb.out)) | exact HB.out)))); replace HB := Aside0.mk (below_step (by repeat (first | (with_reducible first | exact HB.out | apply below_alloc | apply pw_below_drewN | apply below_drew1 | refine below_set ?_ (IsS38.ge HIAa.out) | refine below_set ?_ (IsS38.ge HIAb.out)) | exact HB.out)) hb); replace HIAa := Aside0.mk (IsS38.below (by repeat (first | (with_reducible first | exact HIAa.out | apply IsS38.alloc | apply IsS38.drewN | apply IsS38.drew | apply IsS38.set_0 | apply IsS38.set_1) | exact HIAa.out)) hb); replace HIAb := Aside0.mk (IsS38.below (by repeat (first | (with_reducible first | exact HIAb.out | apply IsS38.alloc | apply IsS38.drewN | apply IsS38.drew | apply IsS38.set_0 | apply IsS38.set_1) | exact HIAb.out)) hb); clear hb ho49; have hcv50 := own_string (P := Try.prog) Try.underlying23 Try.underlying5 Try.underlying9 (Kd.own_of_R HOAr.out)) | ((with_reducible refine gate_callee (f := 9) rfl ?_); refine gL_ 69 Try.func9 #[.pointer (some ⟨gAb, 0, none⟩), .int .u8 x13_21, .int .u8 x13_21] ?_; (with_reducible refine (lane_Lane_Step.calls gAb x8110000_1 x8110001_1 x13_21 x13_21 tAh tAw tAx w _ ?side1 ?side2 A39.out).mono ?_); (case side1 => repeat (first | (with_reducible first | exact HIAb.out | apply IsS38.alloc | apply IsS38.drewN | apply IsS38.drew | apply IsS38.set_0 | apply IsS38.set_1) | exact HIAb.out)); (case side2 => repeat (first | (with_reducible first | exact HB.out | apply below_alloc | apply pw_below_drewN | apply below_drew1 | refine below_set ?_ (IsS38.ge HIAa.out) | refine below_set ?_ (IsS38.ge HIAb.out)) | exact HB.out)); rintro e w51 ⟨rfl, hi, hb, hk⟩; refine ⟨_, rfl, ?_⟩; replace HIAa := Aside0.mk ((show IsS38 w _ gAa tAi tAj from ⟨KeepBut.blk hk (show IsS38 w _ gAa tAi tAj from by repeat (first | (with_reducible first | exact HIAa.out | apply IsS38.alloc | apply IsS38.drewN | apply IsS38.drew | apply IsS38.set_0 | apply IsS38.set_1) | exact HIAa.out)).1 NSAa_Ab.out (by simp), (show IsS38 w _ gAa tAi tAj from by repeat (first | (with_reducible first | exact HIAa.out | apply IsS38.alloc | apply IsS38.drewN | apply IsS38.drew | apply IsS38.set_0 | apply IsS38.set_1) | exact HIAa.out)).2⟩)); replace HOAr := Aside0.mk (Kd.R_mono (Kd.R_keep (IsS38.apart (show IsS38 w _ gAb x8110000_1 x8110001_1 from by repeat (first | (with_reducible first | exact HIAb.out | apply IsS38.alloc | apply IsS38.drewN | apply IsS38.drew | apply IsS38.set_0 | apply IsS38.set_1) | exact HIAb.out)) (pR_ HOAr.out) (by decide)) hk (fun _ h => h.2)) (fun _ h => h.1)); replace HB := Aside0.mk (hb); replace HIAb := Aside0.mk (hi); (try clear hb); (try clear hb2); (try clear hk); (try clear hi)) | ((with_reducible refine gate_dst (N := 74) rfl ?_); refine Kd.R_lit (Kd.int .u8) _ 5 ?hg (N := 74) ?hd (xs := ([tAh] : List Int)) (inner := [.int .u8 tAh]) (ok := fun _ => True) (okp := fun _ => True) ?hr ?hp (fun _ hk => hk) trivial (Below.refl _ _) (Nat.le_refl _) (by simp) ?_; (case hd => rfl); (case hg => rfl); (case hr => first | (go_simp; done) | (go_simp; rfl)); (case hp => exact (Reps.one (show Kd.M (Kd.int .u8) _ _ _ tAh [.int .u8 tAh] from rfl) (Reps.none _ _))); intro vBe w52 ho53 hb hg_ hnew_; clear hg_ hnew_; (first | rw [← NyAm.out] at ho53 | (simp only [Int.reduceToNat] at ho53; rw [← NyAm.out] at ho53)); have HOBc := Aside0.mk (Kd.R_lower (Kd.R_new' ho53 (Kd.R_lt (pR_ HOAr.out))) (below_size (by repeat (first | (with_reducible first | exact HB.out | apply below_alloc | apply pw_below_drewN | apply below_drew1 | refine below_set ?_ (IsS38.ge HIAa.out) | refine below_set ?_ (IsS38.ge HIAb.out)) | exact HB.out)))); replace HOAr := Aside0.mk (Kd.R_elder' (pR_ HOAr.out) (Kd.R_base ho53) hb); replace HB := Aside0.mk (below_step (by repeat (first | (with_reducible first | exact HB.out | apply below_alloc | apply pw_below_drewN | apply below_drew1 | refine below_set ?_ (IsS38.ge HIAa.out) | refine below_set ?_ (IsS38.ge HIAb.out)) | exact HB.out)) hb); replace HIAa := Aside0.mk (IsS38.below (by repeat (first | (with_reducible first | exact HIAa.out | apply IsS38.alloc | apply IsS38.drewN | apply IsS38.drew | apply IsS38.set_0 | apply IsS38.set_1) | exact HIAa.out)) hb); replace HIAb := Aside0.mk (IsS38.below (by repeat (first | (with_reducible first | exact HIAb.out | apply IsS38.alloc | apply IsS38.drewN | apply IsS38.drew | apply IsS38.set_0 | apply IsS38.set_1) | exact HIAb.out)) hb); clear hb ho53; have hcv54 := own_string (P := Try.prog) Try.underlying23 Try.underlying5 Try.underlying9 (Kd.own_of_R HOBc.out)))
         go_roundg kj21
         case measure => have := HK1.out; have := HJ17.out; have := HJ21.out; omega
         case rel => exact ⟨(x9_1 ++ (strOfNums yAk)), (x10_1 ++ (strOfNums yAm)), (wrap64 (x11_1 + 1)), (tAi), (tAj), (tAw), (tAx), (by first | rfl | (simp; done) | (simp [*]; done)), (by first | rfl | (simp; done) | (simp [*]; done)), (by first | rfl | (simp; done) | (simp [*]; done)), H', ⟨by have := HK1.out; have := HJ17.out; have := HJ21.out; omega⟩, ⟨by repeat (first | (with_reducible first | exact HIAa.out | apply IsS38.alloc | apply IsS38.drewN | apply IsS38.drew | apply IsS38.set_0 | apply IsS38.set_1) | exact HIAa.out)⟩, ⟨by repeat (first | (with_reducible first | exact HIAb.out | apply IsS38.alloc | apply IsS38.drewN | apply IsS38.drew | apply IsS38.set_0 | apply IsS38.set_1) | exact HIAb.out)⟩, ⟨by repeat (first | (with_reducible first | exact HB.out | apply below_alloc | apply pw_below_drewN | apply below_drew1 | refine below_set ?_ (IsS38.ge HIAa.out) | refine below_set ?_ (IsS38.ge HIAb.out)) | exact HB.out)⟩⟩
        rw [if_neg c46] at H
        exact absurd H (by simp)
   rw [if_neg c17] at H
   have c17b0 : decide (x11_1 < (ji16)) = false := decide_eq_false c17
   clear c17
   replace H := Option.bind_eq_some_iff.mp H
   obtain ⟨tAc, A550, H⟩ := H
   try dsimp only at H
   have A55 := Aside0.mk A550
   clear A550
   by_cases c56 : x9_1.toList = tAc.toList
   ·
    rw [if_pos c56] at H
    have c56b0 : (x9_1.toList == tAc.toList) = true := beq_iff_eq.mpr c56
    have c56b1 : (x9_1.toList != tAc.toList) = false := bne_eq_false_iff_eq.mpr c56
    clear c56
    replace H := Option.bind_eq_some_iff.mp H
    obtain ⟨tAt, A570, H⟩ := H
    try dsimp only at H
    have A57 := Aside0.mk A570
    clear A570
    obtain rfl := Option.some.inj H
    go_wp2_with (first | ((with_reducible refine gate_callee (f := 12) rfl ?_); refine gL_ 79 Try.func12 #[.string (tAe ++ (⟨#[46]⟩ : ByteArray))] ?_; (with_reducible refine (plaitingref1_Clean.calls k1 (tAe ++ (⟨#[46]⟩ : ByteArray)) tAc _ A55.out).mono ?_); rintro e w' ⟨rfl, ⟨nd, rfl⟩⟩; refine ⟨_, rfl, ?_⟩) | (go_at_call 12; (with_reducible refine (plaitingref1_Clean.calls k1 (tAf ++ (⟨#[46]⟩ : ByteArray)) tAt _ A57.out).mono ?_); rintro e w' ⟨rfl, ⟨nd, rfl⟩⟩))
    go_ret
    exact ⟨by first | rfl | (simp [errW_none, errW_some] <;> rfl) | (simp only [← hji16]; first | rfl | (simp [errW_none, errW_some] <;> rfl)) | (simp [*, errW_none, errW_some] <;> rfl), by repeat (first | (with_reducible first | exact HB.out | apply below_alloc | apply pw_below_drewN | apply below_drew1 | refine below_set ?_ (IsS38.ge HIAa.out) | refine below_set ?_ (IsS38.ge HIAb.out)) | exact HB.out)⟩
   rw [if_neg c56] at H
   have c56b0 : (x9_1.toList == tAc.toList) = false := beq_eq_false_iff_ne.mpr c56
   have c56b1 : (x9_1.toList != tAc.toList) = true := bne_iff_ne.mpr c56
   exact absurd ((Option.some.inj H).trans HRT.out) (by decide)
def plaitinglaw7_LaneApart.Pure : Prop := ∀ (l0 : List Int) (l1 : List Int), l0.length ≤ maxLen → l0.length * 8 ≤ 140737488351232 → (∀ x ∈ l0, (Lit.int .i64 x).wf = true) → l1.length ≤ maxLen → l1.length * 8 ≤ 140737488351232 → (∀ x ∈ l1, (Lit.int .i64 x).wf = true) → ∃ k, plaitinglaw7_LaneApart.f k l0 l1 = some true
theorem plaitinglaw7_LaneApart.walk (P : plaitinglaw7_LaneApart.Pure) (a0 : Option Addr) (len0 cap0 : Nat) (z0 : List Int) (a1 : Option Addr) (len1 cap1 : Nat) (z1 : List Int) (w : World) (w0 : (a0 = none ∧ len0 = 0 ∧ cap0 = 0 ∧ z0 = []) ∨ ∃ x, a0 = some x ∧ len0 ≤ cap0 ∧ cap0 ≤ maxLen ∧ z0.length = cap0 ∧ (∀ i, i < z0.length → w.cell? (x.add i) = some (.int .i64 (z0.getD i 0))) ∧ ∀ n ∈ z0, (Lit.int .i64 n).wf = true) (y0 : len0 * 8 ≤ 140737488351232) (w1 : (a1 = none ∧ len1 = 0 ∧ cap1 = 0 ∧ z1 = []) ∨ ∃ x, a1 = some x ∧ len1 ≤ cap1 ∧ cap1 ≤ maxLen ∧ z1.length = cap1 ∧ (∀ i, i < z1.length → w.cell? (x.add i) = some (.int .i64 (z1.getD i 0))) ∧ ∀ n ∈ z1, (Lit.int .i64 n).wf = true) (y1 : len1 * 8 ≤ 140737488351232) :
  Calls Try.prog 4 #[.slice a0 len0 cap0, .slice a1 len1 cap1] w fun e w' => e = .returned (.bool true) ∧ Below w.heap.size w w' := by
 obtain ⟨l0, rfl, hr0, hm0, hw0, hc0⟩ := ReadsInt.ofRowC w0
 obtain ⟨l1, rfl, hr1, hm1, hw1, hc1⟩ := ReadsInt.ofRowC w1
 obtain ⟨k, h⟩ := P l0 l1 hm0 y0 hw0 hm1 y1 hw1
 refine (plaitinglaw7_LaneApart.calls k _ _ l0 _ _ l1 true w (Kd.C_of_reads (d := (0 : Int)) (h1 := fun _ => rfl) hr0) hc0 (Kd.C_of_reads (d := (0 : Int)) (h1 := fun _ => rfl) hr1) hc1 rfl h).mono ?_
 rintro e w' ⟨rfl, hd⟩
 exact ⟨rfl, hd⟩
end Go.Proofs.Ytcfbmofffipmpaa.P
