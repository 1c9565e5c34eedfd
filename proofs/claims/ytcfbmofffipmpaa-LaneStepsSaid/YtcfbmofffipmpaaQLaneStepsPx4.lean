/- Printed by a program of this session (myprint) out of the translation: the functions as plain Lean functions, and that the calls compute them. What counts is Lean's check. -/
import Derived.Test.YtcfbmofffipmpaaQLaneStepsPx1
namespace Go.Proofs.Ytcfbmofffipmpaa.P
open Go.RowKit Go.Proofs.YtcfbmofffipmpaaW.PrintWords Go.Proofs.YtcfbmofffipmpaaW.PrintLast Go.Proofs.YtcfbmofffipmpaaW.PrintMore
attribute [local go_sem] max2_int min2_int max_two min_two max_three min_three max_four min_four
set_option linter.unusedVariables false
set_option linter.unusedSimpArgs false
attribute [-simp] ByteArray.size_extract ByteArray.size_append ByteArray.extract_append_extract
attribute [-go_sem] ByteArray.size_append'
def plaitinglaw7_known.f  : Option (Bool) := (lane_New.f false).bind fun btAc => ((lane_Out.f true (⟨#[48, 49]⟩ : ByteArray) (⟨#[48, 48]⟩ : ByteArray)).bind fun tAb => (if tAb.toList = ([48] : List UInt8) then ((lane_Lane_Step.f btAc.1 btAc.2 49 48).bind fun btAd => (some (btAd.1 == 49))) else (some false)))
set_option maxHeartbeats 8000000 in
set_option maxRecDepth 100000 in
theorem plaitinglaw7_known.calls  (r : Bool) (w : World) (h : plaitinglaw7_known.f  = some r) :
  Calls Try.prog 5 #[] w fun e w' => e = .returned (.bool r) ∧ Below w.heap.size w w' := by
 have HB := Aside0.mk (Below.refl w.heap.size w)
 have H : ((lane_New.f false).bind fun btAc => ((lane_Out.f true (⟨#[48, 49]⟩ : ByteArray) (⟨#[48, 48]⟩ : ByteArray)).bind fun tAb => (if tAb.toList = ([48] : List UInt8) then ((lane_Lane_Step.f btAc.1 btAc.2 49 48).bind fun btAd => (some (btAd.1 == 49))) else (some false)))) = some r := h
 clear h
 replace H := Option.bind_eq_some_iff.mp H
 obtain ⟨⟨tAc, tAe⟩, A10, H⟩ := H
 try dsimp only at H
 have A1 := Aside0.mk A10
 clear A10
 replace H := Option.bind_eq_some_iff.mp H
 obtain ⟨tAb, A20, H⟩ := H
 try dsimp only at H
 have A2 := Aside0.mk A20
 clear A20
 by_cases c3 : tAb.toList = ([48] : List UInt8)
 ·
  rw [if_pos c3] at H
  have c3b0 : (tAb.toList == ([48] : List UInt8)) = true := beq_iff_eq.mpr c3
  have c3b1 : (tAb.toList != ([48] : List UInt8)) = false := bne_eq_false_iff_eq.mpr c3
  clear c3
  replace H := Option.bind_eq_some_iff.mp H
  obtain ⟨⟨tAd, tAf, tAg⟩, A40, H⟩ := H
  try dsimp only at H
  have A4 := Aside0.mk A40
  clear A40
  obtain rfl := Option.some.inj H
  go_enter Try.func5, Try.ntmps5
  go_wp2_with (first | ((with_reducible refine gate_callee (f := 7) rfl ?_); refine gL_ 2 Try.func7 #[.bool false] ?_; (with_reducible refine (lane_New.calls false tAc tAe w _ ?side1 A1.out).mono ?_); (case side1 => repeat (first | (with_reducible first | exact HB.out | apply below_alloc | apply pw_below_drewN | apply below_drew1) | exact HB.out)); rintro e w5 ⟨gAa, rfl, hi, hb, hb2⟩; refine ⟨_, rfl, ?_⟩; have n0_ := Aside0.mk (hb); have n1_ := Aside0.mk (hi); clear HB; have HB := n0_; have HIAa := n1_; clear n0_ n1_; (try clear hb); (try clear hb2); (try clear hk); (try clear hi); (try clear hi0_)) | ((with_reducible refine gate_callee (f := 11) rfl ?_); refine gL_ 3 Try.func11 #[.bool true, .string (⟨#[48, 49]⟩ : ByteArray), .string (⟨#[48, 48]⟩ : ByteArray)] ?_; (with_reducible refine (lane_Out.calls true (⟨#[48, 49]⟩ : ByteArray) (⟨#[48, 48]⟩ : ByteArray) tAb _ A2.out).mono ?_); rintro e w6 ⟨rfl, hb⟩; refine ⟨_, rfl, ?_⟩; have n0_ := Aside0.mk (IsS38.below (by repeat (first | (with_reducible first | exact HIAa.out | apply IsS38.alloc | apply IsS38.drewN | apply IsS38.drew | apply IsS38.set_0 | apply IsS38.set_1) | exact HIAa.out)) hb); have n1_ := Aside0.mk (below_step (by repeat (first | (with_reducible first | exact HB.out | apply below_alloc | apply pw_below_drewN | apply below_drew1 | refine below_set ?_ (IsS38.ge HIAa.out)) | exact HB.out)) hb); clear HIAa; clear HB; have HIAa := n0_; have HB := n1_; clear n0_ n1_; (try clear hb); (try clear hb2); (try clear hk); (try clear hi)) | (go_at_call 9; (with_reducible refine (lane_Lane_Step.calls gAa tAc tAe 49 48 tAd tAf tAg w _ ?side1 ?side2 A4.out).mono ?_); (case side1 => repeat (first | (with_reducible first | exact HIAa.out | apply IsS38.alloc | apply IsS38.drewN | apply IsS38.drew | apply IsS38.set_0 | apply IsS38.set_1) | exact HIAa.out)); (case side2 => repeat (first | (with_reducible first | exact HB.out | apply below_alloc | apply pw_below_drewN | apply below_drew1 | refine below_set ?_ (IsS38.ge HIAa.out)) | exact HB.out)); rintro e w7 ⟨rfl, hi, hb, hk⟩; have n0_ := Aside0.mk (hb); have n1_ := Aside0.mk (hi); clear HB; clear HIAa; have HB := n0_; have HIAa := n1_; clear n0_ n1_; (try clear hb); (try clear hb2); (try clear hk); (try clear hi)))
  go_ret
  exact ⟨by first | rfl | (simp [errW_none, errW_some] <;> rfl) | (simp [*, errW_none, errW_some] <;> rfl), by repeat (first | (with_reducible first | exact HB.out | apply below_alloc | apply pw_below_drewN | apply below_drew1 | refine below_set ?_ (IsS38.ge HIAa.out)) | exact HB.out)⟩
 ·
  rw [if_neg c3] at H
  have c3b0 : (tAb.toList == ([48] : List UInt8)) = false := beq_eq_false_iff_ne.mpr c3
  have c3b1 : (tAb.toList != ([48] : List UInt8)) = true := bne_iff_ne.mpr c3
  obtain rfl := Option.some.inj H
  go_enter Try.func5, Try.ntmps5
  go_wp2_with (first | ((with_reducible refine gate_callee (f := 7) rfl ?_); refine gL_ 2 Try.func7 #[.bool false] ?_; (with_reducible refine (lane_New.calls false tAc tAe w _ ?side1 A1.out).mono ?_); (case side1 => repeat (first | (with_reducible first | exact HB.out | apply below_alloc | apply pw_below_drewN | apply below_drew1) | exact HB.out)); rintro e w8 ⟨gAa, rfl, hi, hb, hb2⟩; refine ⟨_, rfl, ?_⟩; have n0_ := Aside0.mk (hb); have n1_ := Aside0.mk (hi); clear HB; have HB := n0_; have HIAa := n1_; clear n0_ n1_; (try clear hb); (try clear hb2); (try clear hk); (try clear hi); (try clear hi0_)) | ((with_reducible refine gate_callee (f := 11) rfl ?_); refine gL_ 3 Try.func11 #[.bool true, .string (⟨#[48, 49]⟩ : ByteArray), .string (⟨#[48, 48]⟩ : ByteArray)] ?_; (with_reducible refine (lane_Out.calls true (⟨#[48, 49]⟩ : ByteArray) (⟨#[48, 48]⟩ : ByteArray) tAb _ A2.out).mono ?_); rintro e w9 ⟨rfl, hb⟩; refine ⟨_, rfl, ?_⟩; have n0_ := Aside0.mk (IsS38.below (by repeat (first | (with_reducible first | exact HIAa.out | apply IsS38.alloc | apply IsS38.drewN | apply IsS38.drew | apply IsS38.set_0 | apply IsS38.set_1) | exact HIAa.out)) hb); have n1_ := Aside0.mk (below_step (by repeat (first | (with_reducible first | exact HB.out | apply below_alloc | apply pw_below_drewN | apply below_drew1 | refine below_set ?_ (IsS38.ge HIAa.out)) | exact HB.out)) hb); clear HIAa; clear HB; have HIAa := n0_; have HB := n1_; clear n0_ n1_; (try clear hb); (try clear hb2); (try clear hk); (try clear hi)))
  go_ret
  exact ⟨by first | rfl | (simp [errW_none, errW_some] <;> rfl) | (simp [*, errW_none, errW_some] <;> rfl), by repeat (first | (with_reducible first | exact HB.out | apply below_alloc | apply pw_below_drewN | apply below_drew1 | refine below_set ?_ (IsS38.ge HIAa.out)) | exact HB.out)⟩
end Go.Proofs.Ytcfbmofffipmpaa.P
