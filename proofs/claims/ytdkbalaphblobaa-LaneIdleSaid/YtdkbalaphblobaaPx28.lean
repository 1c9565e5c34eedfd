/- Printed by a program of this session (myprint) out of the translation: the functions as plain Lean functions, and that the calls compute them. What counts is Lean's check. -/
import Derived.Test.YtdkbalaphblobaaPx0
import Derived.Test.YtdkbalaphblobaaPx16
import Derived.Test.YtdkbalaphblobaaPx19
import Derived.Test.YtdkbalaphblobaaPx20
import Derived.Test.YtdkbalaphblobaaPx21
namespace Go.Proofs.Ytdkbalaphblobaa.P
open Go.RowKit Go.Proofs.YtdkbalaphblobaaW.PrintWords Go.Proofs.YtdkbalaphblobaaW.PrintLast Go.Proofs.YtdkbalaphblobaaW.PrintMore
attribute [local go_sem] max2_int min2_int max_two min_two max_three min_three max_four min_four   -- for this text's walks alone
set_option linter.unusedVariables false
set_option linter.unusedSimpArgs false

/-! ### plaitinglaw7_LaneIdle: function 15 -/
def plaitinglaw7_LaneIdle.l0 : Nat → Bool → ByteArray → Int → ByteArray → Int → Bool → Bool → Option (Bool)
  | 0, _, _, _, _, _, _, _ => none
  | k + 1, x2, x7, x8, x10, x11, x30108000, x30108001 => if x11 < (x7.size : Int) then (if x11 < x8 then (if 0 ≤ x11 then ((lane_Lane_Step.f x30108000 x30108001 (bt x7 x11) (bt x7 x11)).bind fun bt30108 => (if bt30108.1 = 46 then (plaitinglaw7_LaneIdle.l0 k x2 x7 x8 x10 (wrap64 (x11 + 1)) bt30108.2.1 bt30108.2.2) else ((some (([bt30108.1] : List Int) : List Int)).bind fun y30111 => (if x10.size + (strOfNums y30111).size ≤ 9223372036854775807 then (plaitinglaw7_LaneIdle.l0 k x2 x7 x8 (x10 ++ (strOfNums y30111)) (wrap64 (x11 + 1)) bt30108.2.1 bt30108.2.2) else (none))))) else (none)) else (if 0 ≤ x11 then ((lane_Lane_Step.f x30108000 x30108001 (bt x7 x11) 46).bind fun bt30114 => (if bt30114.1 = 46 then (plaitinglaw7_LaneIdle.l0 k x2 x7 x8 x10 (wrap64 (x11 + 1)) bt30114.2.1 bt30114.2.2) else ((some (([bt30114.1] : List Int) : List Int)).bind fun y30117 => (if x10.size + (strOfNums y30117).size ≤ 9223372036854775807 then (plaitinglaw7_LaneIdle.l0 k x2 x7 x8 (x10 ++ (strOfNums y30117)) (wrap64 (x11 + 1)) bt30114.2.1 bt30114.2.2) else (none))))) else (none))) else (if x2 = true then (if 0 ≤ x8 then (if x8 ≤ (x7.size : Int) then (if x10.toList = (x7.extract 0 (x8 : Int).toNat).toList then ((lane_Out.f true x7 (x7.extract 0 (x8 : Int).toNat)).bind fun t30120 => (some (t30120.toList == (x7.extract 0 (x8 : Int).toNat).toList))) else (some false)) else (none)) else (none)) else (if x10.toList = x7.toList then (if 0 ≤ x8 then (if x8 ≤ (x7.size : Int) then ((lane_Out.f false x7 (x7.extract 0 (x8 : Int).toNat)).bind fun t30121 => (some (t30121.toList == x7.toList))) else (none)) else (none)) else (some false)))
def plaitinglaw7_LaneIdle.f (k : Nat) (l0 : List Int) (a1 : Int) (a2 : Bool) : Option (Bool) := (plaitinglaw7_known.f).bind fun t30101 => (if t30101 = true then ((plaitinglaw1_Text.f k l0).bind fun t30102 => ((plaitingref1_Clean.f k t30102).bind fun t30103 => ((plaitinglaw7_within.f a1 (wrap64 ((t30103.size : Int) + 1))).bind fun t30104 => ((lane_New.f a2).bind fun bt30105 => (plaitinglaw7_LaneIdle.l0 k a2 t30103 t30104 (⟨#[]⟩ : ByteArray) 0 bt30105.1 bt30105.2))))) else (some false))
theorem plaitinglaw7_LaneIdle.mono_l : ∀ k, (∀ y0 y1 y2 y3 y4 y5 y6, LeO (plaitinglaw7_LaneIdle.l0 k y0 y1 y2 y3 y4 y5 y6) (plaitinglaw7_LaneIdle.l0 (k + 1) y0 y1 y2 y3 y4 y5 y6))
  | 0 => fun _ _ _ _ _ _ _ r h => by simp [plaitinglaw7_LaneIdle.l0] at h
  | k + 1 => by
    have ih0 := plaitinglaw7_LaneIdle.mono_l k
    · intro y0 y1 y2 y3 y4 y5 y6
      unfold plaitinglaw7_LaneIdle.l0
      repeat' first
      | (with_reducible exact ih0 _ _ _ _ _ _ _)
      | (with_reducible exact plaitinglaw1_Text.mono _ _)
      | (with_reducible exact plaitingref1_Clean.mono _ _)
      | (with_reducible exact LeO.refl _)
      | (with_reducible exact LeO.none _)
      | (with_reducible refine LeO.ite ?_ ?_)
      | (with_reducible refine LeO.bind ?_ (fun _ => ?_))
      | exact ih0 _ _ _ _ _ _ _
      | exact plaitinglaw1_Text.mono _ _
      | exact plaitingref1_Clean.mono _ _
      | exact LeO.none _
      | refine LeO.ite ?_ ?_
      | refine LeO.bind ?_ (fun _ => ?_)
theorem plaitinglaw7_LaneIdle.mono : ∀ a0 a1 a2 k, LeO (plaitinglaw7_LaneIdle.f k a0 a1 a2) (plaitinglaw7_LaneIdle.f (k + 1) a0 a1 a2) := by
  intro a0 a1 a2 k
  have ih0 := plaitinglaw7_LaneIdle.mono_l k
  unfold plaitinglaw7_LaneIdle.f
  repeat' first
      | (with_reducible exact ih0 _ _ _ _ _ _ _)
      | (with_reducible exact plaitinglaw1_Text.mono _ _)
      | (with_reducible exact plaitingref1_Clean.mono _ _)
      | (with_reducible exact LeO.refl _)
      | (with_reducible exact LeO.none _)
      | (with_reducible refine LeO.ite ?_ ?_)
      | (with_reducible refine LeO.bind ?_ (fun _ => ?_))
      | exact ih0 _ _ _ _ _ _ _
      | exact plaitinglaw1_Text.mono _ _
      | exact plaitingref1_Clean.mono _ _
      | exact LeO.none _
      | refine LeO.ite ?_ ?_
      | refine LeO.bind ?_ (fun _ => ?_)
def plaitinglaw7_LaneIdle.T19 : Bool × List (List Nat × List Nat) := (true, [([], []), ([], []), ([], []), ([1, 2], [1, 2]), ([0, 3], [0, 3]), ([4], [4]), ([5], [5]), ([5], [5]), ([5], [5]), ([7, 8, 5], [5, 7, 8]), ([6, 9, 5, 5], [5, 6, 9]), ([5], [5]), ([5], [5]), ([11, 12, 5], [5, 11, 12]), ([10, 13, 5], [5, 10, 13]), ([5, 14], [5, 14]), ([15, 10, 0, 1, 2, 3, 4, 5, 6, 7, 8, 9, 10, 11, 12, 13, 14, 15], [15])])
def plaitinglaw7_LaneIdle.B19 : List Nat := [0, 0, 0, 6, 15, 31, 63, 63, 63, 447, 1023, 63, 63, 6207, 16383, 32767, 65535]
theorem plaitinglaw7_LaneIdle.tab19 : rtab .any (opsOf Try.f15 19) = plaitinglaw7_LaneIdle.T19 := by kernel_rfl
theorem plaitinglaw7_LaneIdle.bits19 : waitsOk plaitinglaw7_LaneIdle.T19.2 plaitinglaw7_LaneIdle.B19 = true := by kernel_rfl
set_option maxHeartbeats 8000000 in
set_option maxRecDepth 100000 in
theorem plaitinglaw7_LaneIdle.calls (k : Nat) (A0 : Option Addr) (c0 : Nat) (l0 : List Int) (a1 : Int) (a2 : Bool) (r : Bool) (w : World) (hr0 : Kd.C (Kd.int .i64) w A0 l0.length l0) (hc0 : l0.length ≤ c0) (hrt : r = true) (h : plaitinglaw7_LaneIdle.f k l0 a1 a2 = some r) :
    Calls Try.prog 15 #[.slice A0 l0.length c0, .int .i64 a1, .bool a2] w fun e w' => e = .returned (.bool r) ∧ Below w.heap.size w w' := by
  have HRT := Aside0.mk hrt
  clear hrt
  have HR0 := Aside0.mk hr0
  have HC0 := Aside0.mk hc0
  clear hr0 hc0
  have HB := Aside0.mk (Below.refl w.heap.size w)
  have H : ((plaitinglaw7_known.f).bind fun t30101 => (if t30101 = true then ((plaitinglaw1_Text.f k l0).bind fun t30102 => ((plaitingref1_Clean.f k t30102).bind fun t30103 => ((plaitinglaw7_within.f a1 (wrap64 ((t30103.size : Int) + 1))).bind fun t30104 => ((lane_New.f a2).bind fun bt30105 => (plaitinglaw7_LaneIdle.l0 k a2 t30103 t30104 (⟨#[]⟩ : ByteArray) 0 bt30105.1 bt30105.2))))) else (some false))) = some r := h
  clear h
  replace H := Option.bind_eq_some_iff.mp H
  obtain ⟨t30101, A40, H⟩ := H
  replace H : (if t30101 = true then ((plaitinglaw1_Text.f k l0).bind fun t30102 => ((plaitingref1_Clean.f k t30102).bind fun t30103 => ((plaitinglaw7_within.f a1 (wrap64 ((t30103.size : Int) + 1))).bind fun t30104 => ((lane_New.f a2).bind fun bt30105 => (plaitinglaw7_LaneIdle.l0 k a2 t30103 t30104 (⟨#[]⟩ : ByteArray) 0 bt30105.1 bt30105.2))))) else (some false)) = some r := H
  have A4 := Aside0.mk A40
  clear A40
  by_cases c5 : t30101 = true
  · subst c5
    have H1 : ((plaitinglaw1_Text.f k l0).bind fun t30102 => ((plaitingref1_Clean.f k t30102).bind fun t30103 => ((plaitinglaw7_within.f a1 (wrap64 ((t30103.size : Int) + 1))).bind fun t30104 => ((lane_New.f a2).bind fun bt30105 => (plaitinglaw7_LaneIdle.l0 k a2 t30103 t30104 (⟨#[]⟩ : ByteArray) 0 bt30105.1 bt30105.2))))) = some r := by rw [if_pos rfl] at H; exact H
    clear H
    have H := H1
    clear H1
    replace H := Option.bind_eq_some_iff.mp H
    obtain ⟨t30102, A60, H⟩ := H
    replace H : ((plaitingref1_Clean.f k t30102).bind fun t30103 => ((plaitinglaw7_within.f a1 (wrap64 ((t30103.size : Int) + 1))).bind fun t30104 => ((lane_New.f a2).bind fun bt30105 => (plaitinglaw7_LaneIdle.l0 k a2 t30103 t30104 (⟨#[]⟩ : ByteArray) 0 bt30105.1 bt30105.2)))) = some r := H
    have A6 := Aside0.mk A60
    clear A60
    replace H := Option.bind_eq_some_iff.mp H
    obtain ⟨t30103, A70, H⟩ := H
    replace H : ((plaitinglaw7_within.f a1 (wrap64 ((t30103.size : Int) + 1))).bind fun t30104 => ((lane_New.f a2).bind fun bt30105 => (plaitinglaw7_LaneIdle.l0 k a2 t30103 t30104 (⟨#[]⟩ : ByteArray) 0 bt30105.1 bt30105.2))) = some r := H
    have A7 := Aside0.mk A70
    clear A70
    replace H := Option.bind_eq_some_iff.mp H
    obtain ⟨t30104, A80, H⟩ := H
    replace H : ((lane_New.f a2).bind fun bt30105 => (plaitinglaw7_LaneIdle.l0 k a2 t30103 t30104 (⟨#[]⟩ : ByteArray) 0 bt30105.1 bt30105.2)) = some r := H
    have A8 := Aside0.mk A80
    clear A80
    replace H := Option.bind_eq_some_iff.mp H
    obtain ⟨⟨t30105, t30106⟩, A90, H⟩ := H
    replace H : (plaitinglaw7_LaneIdle.l0 k a2 t30103 t30104 (⟨#[]⟩ : ByteArray) 0 t30105 t30106) = some r := H
    have A9 := Aside0.mk A90
    clear A90
    have H' := Aside0.mk H
    clear H
    go_enter Try.func15, Try.ntmps15
    go_wp2_with (first | ((with_reducible refine gate_callee (f := 39) rfl ?_); refine goesL_ (some 14) rfl rfl Try.func39 (by kernel_rfl) rfl #[] rfl (by (try simp only [List.map_toArray, List.map_cons, List.map_nil]); first | done | rfl | (simp only [List.length_drop, List.length_take]; rfl)) ?_; (with_reducible refine (plaitinglaw7_known.calls  true _ A4.out).mono ?_); rintro e w10 ⟨rfl, hb⟩; refine ⟨_, rfl, ?_⟩; have n0_ := Aside0.mk (below_step (by repeat (first | (with_reducible first | exact HB.out | apply below_alloc | apply pw_below_drewN | apply below_drew1) | exact HB.out)) hb); clear HB; have HB := n0_; clear n0_; (try clear hb); (try clear hb2); (try clear hk); (try clear hi)) | ((with_reducible refine gate_callee (f := 40) rfl ?_); refine goesL_ (some 17) rfl rfl Try.func40 (by kernel_rfl) rfl #[.slice A0 l0.length c0] rfl (by (try simp only [List.map_toArray, List.map_cons, List.map_nil]); first | done | rfl | (simp only [List.length_drop, List.length_take]; rfl)) ?_; (with_reducible refine (plaitinglaw1_Text.calls k _ _ l0 t30102 _ ?side1 ?side2 A6.out).mono ?_); (case side1 => repeat (first | exact (Kd.C_below HR0.out HB.out) | (with_reducible refine Kd.C_alloc ?_ _) | (with_reducible refine Kd.C_drewN ?_ _) | (with_reducible refine Kd.C_drew ?_))); (case side2 => exact HC0.out); rintro e w11 ⟨rfl, hb⟩; refine ⟨_, rfl, ?_⟩; have n0_ := Aside0.mk (below_step (by repeat (first | (with_reducible first | exact HB.out | apply below_alloc | apply pw_below_drewN | apply below_drew1) | exact HB.out)) hb); clear HB; have HB := n0_; clear n0_; (try clear hb); (try clear hb2); (try clear hk); (try clear hi)) | ((with_reducible refine gate_callee (f := 48) rfl ?_); refine goesL_ (some 18) rfl rfl Try.func48 (by kernel_rfl) rfl #[.string t30102] rfl (by (try simp only [List.map_toArray, List.map_cons, List.map_nil]); first | done | rfl | (simp only [List.length_drop, List.length_take]; rfl)) ?_; (with_reducible refine (plaitingref1_Clean.calls k t30102 t30103 _ A7.out).mono ?_); rintro e w' ⟨rfl, ⟨nd, rfl⟩⟩; refine ⟨_, rfl, ?_⟩) | ((with_reducible refine gate_callee (f := 50) rfl ?_); refine goesL_ (some 23) rfl rfl Try.func50 (by kernel_rfl) rfl #[.int .i64 a1, .int .i64 (wrap64 ((t30103.size : Int) + 1))] rfl (by (try simp only [List.map_toArray, List.map_cons, List.map_nil]); first | done | rfl | (simp only [List.length_drop, List.length_take]; rfl)) ?_; (with_reducible refine (plaitinglaw7_within.calls a1 (wrap64 ((t30103.size : Int) + 1)) t30104 _ A8.out).mono ?_); rintro e w' ⟨rfl, ⟨nd, rfl⟩⟩; refine ⟨_, rfl, ?_⟩) | ((with_reducible refine gate_callee (f := 43) rfl ?_); refine goesL_ (some 25) rfl rfl Try.func43 (by kernel_rfl) rfl #[.bool a2] rfl (by (try simp only [List.map_toArray, List.map_cons, List.map_nil]); first | done | rfl | (simp only [List.length_drop, List.length_take]; rfl)) ?_; (with_reducible refine (lane_New.calls a2 t30105 t30106 w _ ?side1 A9.out).mono ?_); (case side1 => repeat (first | (with_reducible first | exact HB.out | apply below_alloc | apply pw_below_drewN | apply below_drew1) | exact HB.out)); rintro e w12 ⟨g30107, rfl, hi, hb, hb2⟩; refine ⟨_, rfl, ?_⟩; have n0_ := Aside0.mk (hb); have n1_ := Aside0.mk (hi); clear HB; have HB := n0_; have HI30107 := n1_; clear n0_ n1_; (try clear hb); (try clear hb2); (try clear hk); (try clear hi)))
    go_loopg [10, 11] k (fun kq v10 v11 w' => ∃ (x10_1 : ByteArray) (x11_1 : Int) (x30108000_1 : Bool) (x30108001_1 : Bool), v10 = .string x10_1 ∧ v11 = .int .i64 x11_1 ∧ Aside0 (plaitinglaw7_LaneIdle.l0 kq a2 t30103 t30104 x10_1 x11_1 x30108000_1 x30108001_1 = some r) ∧ Aside0 (kq ≤ k) ∧ Aside0 (IsS86 w w' g30107 x30108000_1 x30108001_1) ∧ Aside0 (Below w.heap.size w w'))
    case atStart => exact ⟨((⟨#[]⟩ : ByteArray)), (0), (t30105), (t30106), (by first | rfl | (simp; done) | (simp [*]; done)), (by first | rfl | (simp; done) | (simp [*]; done)), H', ⟨Nat.le_refl _⟩, ⟨by repeat (first | (with_reducible first | exact HI30107.out | apply IsS86.alloc | apply IsS86.drewN | apply IsS86.drew | apply IsS86.set_0 | apply IsS86.set_1) | exact HI30107.out)⟩, ⟨by repeat (first | (with_reducible first | exact HB.out | apply below_alloc | apply pw_below_drewN | apply below_drew1 | refine below_set ?_ (IsS86.ge HI30107.out)) | exact HB.out)⟩⟩
    case round =>
      clear H'
      try clear c1
      try clear p2
      try clear c3
      try clear c4
      try clear c5
      try clear p6
      obtain ⟨x10_1, x11_1, x30108000_1, x30108001_1, rfl, rfl, HA, HK1, HI30107, HB⟩ := hrel
      cases gk with
      | zero => exact absurd HA.out (by simp [plaitinglaw7_LaneIdle.l0])
      | succ k1 =>
        have H := HA.out
        clear HA
        simp only [plaitinglaw7_LaneIdle.l0] at H
        by_cases c13 : x11_1 < (t30103.size : Int)
        · rw [if_pos c13] at H
          have c13b0 : decide (x11_1 < (t30103.size : Int)) = true := decide_eq_true c13
          clear c13
          by_cases c14 : x11_1 < t30104
          · rw [if_pos c14] at H
            have c14b0 : decide (x11_1 < t30104) = true := decide_eq_true c14
            clear c14
            by_cases c15 : 0 ≤ x11_1
            · rw [if_pos c15] at H
              have c15b0 : decide (0 ≤ x11_1) = true := decide_eq_true c15
              clear c15
              replace H := Option.bind_eq_some_iff.mp H
              obtain ⟨⟨t30108, t30109, t30110⟩, A180, H⟩ := H
              replace H : (if t30108 = 46 then (plaitinglaw7_LaneIdle.l0 k1 a2 t30103 t30104 x10_1 (wrap64 (x11_1 + 1)) t30109 t30110) else ((some (([t30108] : List Int) : List Int)).bind fun y30111 => (if x10_1.size + (strOfNums y30111).size ≤ 9223372036854775807 then (plaitinglaw7_LaneIdle.l0 k1 a2 t30103 t30104 (x10_1 ++ (strOfNums y30111)) (wrap64 (x11_1 + 1)) t30109 t30110) else (none)))) = some r := H
              have A18 := Aside0.mk A180
              clear A180
              by_cases c19 : t30108 = 46
              · rw [if_pos c19] at H
                have c19b0 : (t30108 == 46) = true := beq_iff_eq.mpr c19
                have c19b1 : (t30108 != 46) = false := bne_eq_false_iff_eq.mpr c19
                clear c19
                have H' := Aside0.mk H
                clear H
                have p16 : 0 ≤ (x11_1 : Int) := of_decide_eq_true (by first | (with_reducible assumption) | assumption)
                have q16 : x11_1 < (t30103.size : Int) := of_decide_eq_true (by first | (with_reducible assumption) | assumption)
                have hx16 := bt_at t30103 x11_1
                replace p16 := eq_true p16
                replace q16 := eq_true q16
                have p17 : 0 ≤ (x11_1 : Int) := of_decide_eq_true (by first | (with_reducible assumption) | assumption)
                have q17 : x11_1 < (t30103.size : Int) := of_decide_eq_true (by first | (with_reducible assumption) | assumption)
                have hx17 := bt_at t30103 x11_1
                replace p17 := eq_true p17
                replace q17 := eq_true q17
                go_wp2_with (first | ((with_reducible refine gate_callee (f := 45) rfl ?_); refine goesL_ (some 45) rfl rfl Try.func45 (by kernel_rfl) rfl #[.pointer (some ⟨g30107, 0, none⟩), .int .u8 (bt t30103 x11_1), .int .u8 (bt t30103 x11_1)] rfl (by (try simp only [List.map_toArray, List.map_cons, List.map_nil]); first | done | rfl | (simp only [List.length_drop, List.length_take]; rfl)) ?_; (with_reducible refine (lane_Lane_Step.calls g30107 x30108000_1 x30108001_1 (bt t30103 x11_1) (bt t30103 x11_1) t30108 t30109 t30110 w _ ?side1 ?side2 A18.out).mono ?_); (case side1 => repeat (first | (with_reducible first | exact HI30107.out | apply IsS86.alloc | apply IsS86.drewN | apply IsS86.drew | apply IsS86.set_0 | apply IsS86.set_1) | exact HI30107.out)); (case side2 => repeat (first | (with_reducible first | exact HB.out | apply below_alloc | apply pw_below_drewN | apply below_drew1 | refine below_set ?_ (IsS86.ge HI30107.out)) | exact HB.out)); rintro e w20 ⟨rfl, hi, hb, hk⟩; refine ⟨_, rfl, ?_⟩; have n0_ := Aside0.mk (hb); have n1_ := Aside0.mk (hi); clear HB; clear HI30107; have HB := n0_; have HI30107 := n1_; clear n0_ n1_; (try clear hb); (try clear hb2); (try clear hk); (try clear hi)))
                go_roundg k1
                case measure => have := HK1.out; omega
                case rel => exact ⟨(x10_1), (wrap64 (x11_1 + 1)), (t30109), (t30110), (by first | rfl | (simp; done) | (simp [*]; done)), (by first | rfl | (simp; done) | (simp [*]; done)), H', ⟨by have := HK1.out; omega⟩, ⟨by repeat (first | (with_reducible first | exact HI30107.out | apply IsS86.alloc | apply IsS86.drewN | apply IsS86.drew | apply IsS86.set_0 | apply IsS86.set_1) | exact HI30107.out)⟩, ⟨by repeat (first | (with_reducible first | exact HB.out | apply below_alloc | apply pw_below_drewN | apply below_drew1 | refine below_set ?_ (IsS86.ge HI30107.out)) | exact HB.out)⟩⟩
              · rw [if_neg c19] at H
                have c19b0 : (t30108 == 46) = false := beq_eq_false_iff_ne.mpr c19
                have c19b1 : (t30108 != 46) = true := bne_iff_ne.mpr c19
                obtain ⟨y30111, hy30111⟩ : ∃ y_ : List Int, y_ = (([t30108] : List Int)) := ⟨_, rfl⟩
                replace H : (if x10_1.size + (strOfNums y30111).size ≤ 9223372036854775807 then (plaitinglaw7_LaneIdle.l0 k1 a2 t30103 t30104 (x10_1 ++ (strOfNums y30111)) (wrap64 (x11_1 + 1)) t30109 t30110) else (none)) = some r := by first | (rw [hy30111]; with_reducible exact H) | (have H2_ := (Option.bind_some _ _).symm.trans H; rw [hy30111]; with_reducible exact H2_) | (have H2_ := (Option.bind_some _ _).symm.trans H; with_reducible exact H2_) | with_reducible exact H | (rw [hy30111]; exact H) | exact H
                have Ny30111 := Aside0.mk hy30111
                clear hy30111
                by_cases c21 : x10_1.size + (strOfNums y30111).size ≤ 9223372036854775807
                · rw [if_pos c21] at H
                  have c21b0 := eq_true c21
                  have c21b1 : decide (x10_1.size + (strOfNums y30111).size ≤ 9223372036854775807) = true := decide_eq_true c21
                  try have c21b2 : (9223372036854775807 < x10_1.size + (strOfNums y30111).size) = False := eq_false (Nat.not_lt.2 c21)
                  have H' := Aside0.mk H
                  clear H
                  have p16 : 0 ≤ (x11_1 : Int) := of_decide_eq_true (by first | (with_reducible assumption) | assumption)
                  have q16 : x11_1 < (t30103.size : Int) := of_decide_eq_true (by first | (with_reducible assumption) | assumption)
                  have hx16 := bt_at t30103 x11_1
                  replace p16 := eq_true p16
                  replace q16 := eq_true q16
                  have p17 : 0 ≤ (x11_1 : Int) := of_decide_eq_true (by first | (with_reducible assumption) | assumption)
                  have q17 : x11_1 < (t30103.size : Int) := of_decide_eq_true (by first | (with_reducible assumption) | assumption)
                  have hx17 := bt_at t30103 x11_1
                  replace p17 := eq_true p17
                  replace q17 := eq_true q17
                  go_wp2_with (first | ((with_reducible refine gate_callee (f := 45) rfl ?_); refine goesL_ (some 45) rfl rfl Try.func45 (by kernel_rfl) rfl #[.pointer (some ⟨g30107, 0, none⟩), .int .u8 (bt t30103 x11_1), .int .u8 (bt t30103 x11_1)] rfl (by (try simp only [List.map_toArray, List.map_cons, List.map_nil]); first | done | rfl | (simp only [List.length_drop, List.length_take]; rfl)) ?_; (with_reducible refine (lane_Lane_Step.calls g30107 x30108000_1 x30108001_1 (bt t30103 x11_1) (bt t30103 x11_1) t30108 t30109 t30110 w _ ?side1 ?side2 A18.out).mono ?_); (case side1 => repeat (first | (with_reducible first | exact HI30107.out | apply IsS86.alloc | apply IsS86.drewN | apply IsS86.drew | apply IsS86.set_0 | apply IsS86.set_1) | exact HI30107.out)); (case side2 => repeat (first | (with_reducible first | exact HB.out | apply below_alloc | apply pw_below_drewN | apply below_drew1 | refine below_set ?_ (IsS86.ge HI30107.out)) | exact HB.out)); rintro e w22 ⟨rfl, hi, hb, hk⟩; refine ⟨_, rfl, ?_⟩; have n0_ := Aside0.mk (hb); have n1_ := Aside0.mk (hi); clear HB; clear HI30107; have HB := n0_; have HI30107 := n1_; clear n0_ n1_; (try clear hb); (try clear hb2); (try clear hk); (try clear hi)) | ((with_reducible refine gate_dst (N := 50) rfl ?_); refine Kd.R_lit (Kd.int .u8) _ 5 ?hg (N := 50) ?hd (xs := ([t30108] : List Int)) (inner := [.int .u8 t30108]) (ok := fun _ => True) (okp := fun _ => True) ?hr ?hp (fun _ hk => hk) trivial (Below.refl _ _) (Nat.le_refl _) (by simp) ?_; (case hd => rfl); (case hg => rfl); (case hr => first | (go_simp; done) | (go_simp; rfl)); (case hp => exact (Reps.one (show Kd.M (Kd.int .u8) _ _ _ t30108 [.int .u8 t30108] from rfl) (Reps.none _ _))); intro v30112 w23 ho24 hb hg_ hnew_; clear hg_ hnew_; (first | rw [← Ny30111.out] at ho24 | (simp only [Int.reduceToNat] at ho24; rw [← Ny30111.out] at ho24)); have n0_ := Aside0.mk (Kd.R_lower ho24 (below_size (by repeat (first | (with_reducible first | exact HB.out | apply below_alloc | apply pw_below_drewN | apply below_drew1 | refine below_set ?_ (IsS86.ge HI30107.out)) | exact HB.out)))); have n1_ := Aside0.mk (IsS86.below (by repeat (first | (with_reducible first | exact HI30107.out | apply IsS86.alloc | apply IsS86.drewN | apply IsS86.drew | apply IsS86.set_0 | apply IsS86.set_1) | exact HI30107.out)) hb); have n2_ := Aside0.mk (below_step (by repeat (first | (with_reducible first | exact HB.out | apply below_alloc | apply pw_below_drewN | apply below_drew1 | refine below_set ?_ (IsS86.ge HI30107.out)) | exact HB.out)) hb); clear HI30107; clear HB; have HO30113 := n0_; have HI30107 := n1_; have HB := n2_; clear n0_ n1_ n2_; clear hb ho24; have hcv25 := own_string (P := Try.prog) Try.underlying52 Try.underlying5 Try.underlying9 (Kd.own_of_R HO30113.out)))
                  go_roundg k1
                  case measure => have := HK1.out; omega
                  case rel => exact ⟨(x10_1 ++ (strOfNums y30111)), (wrap64 (x11_1 + 1)), (t30109), (t30110), (by first | rfl | (simp; done) | (simp [*]; done)), (by first | rfl | (simp; done) | (simp [*]; done)), H', ⟨by have := HK1.out; omega⟩, ⟨by repeat (first | (with_reducible first | exact HI30107.out | apply IsS86.alloc | apply IsS86.drewN | apply IsS86.drew | apply IsS86.set_0 | apply IsS86.set_1) | exact HI30107.out)⟩, ⟨by repeat (first | (with_reducible first | exact HB.out | apply below_alloc | apply pw_below_drewN | apply below_drew1 | refine below_set ?_ (IsS86.ge HI30107.out)) | exact HB.out)⟩⟩
                · rw [if_neg c21] at H
                  exact absurd H (by simp)
            · rw [if_neg c15] at H
              exact absurd H (by simp)
          · rw [if_neg c14] at H
            have c14b0 : decide (x11_1 < t30104) = false := decide_eq_false c14
            clear c14
            by_cases c26 : 0 ≤ x11_1
            · rw [if_pos c26] at H
              have c26b0 : decide (0 ≤ x11_1) = true := decide_eq_true c26
              clear c26
              replace H := Option.bind_eq_some_iff.mp H
              obtain ⟨⟨t30114, t30115, t30116⟩, A280, H⟩ := H
              replace H : (if t30114 = 46 then (plaitinglaw7_LaneIdle.l0 k1 a2 t30103 t30104 x10_1 (wrap64 (x11_1 + 1)) t30115 t30116) else ((some (([t30114] : List Int) : List Int)).bind fun y30117 => (if x10_1.size + (strOfNums y30117).size ≤ 9223372036854775807 then (plaitinglaw7_LaneIdle.l0 k1 a2 t30103 t30104 (x10_1 ++ (strOfNums y30117)) (wrap64 (x11_1 + 1)) t30115 t30116) else (none)))) = some r := H
              have A28 := Aside0.mk A280
              clear A280
              by_cases c29 : t30114 = 46
              · rw [if_pos c29] at H
                have c29b0 : (t30114 == 46) = true := beq_iff_eq.mpr c29
                have c29b1 : (t30114 != 46) = false := bne_eq_false_iff_eq.mpr c29
                clear c29
                have H' := Aside0.mk H
                clear H
                have p27 : 0 ≤ (x11_1 : Int) := of_decide_eq_true (by first | (with_reducible assumption) | assumption)
                have q27 : x11_1 < (t30103.size : Int) := of_decide_eq_true (by first | (with_reducible assumption) | assumption)
                have hx27 := bt_at t30103 x11_1
                replace p27 := eq_true p27
                replace q27 := eq_true q27
                go_wp2_with (first | ((with_reducible refine gate_callee (f := 45) rfl ?_); refine goesL_ (some 45) rfl rfl Try.func45 (by kernel_rfl) rfl #[.pointer (some ⟨g30107, 0, none⟩), .int .u8 (bt t30103 x11_1), .int .u8 46] rfl (by (try simp only [List.map_toArray, List.map_cons, List.map_nil]); first | done | rfl | (simp only [List.length_drop, List.length_take]; rfl)) ?_; (with_reducible refine (lane_Lane_Step.calls g30107 x30108000_1 x30108001_1 (bt t30103 x11_1) 46 t30114 t30115 t30116 w _ ?side1 ?side2 A28.out).mono ?_); (case side1 => repeat (first | (with_reducible first | exact HI30107.out | apply IsS86.alloc | apply IsS86.drewN | apply IsS86.drew | apply IsS86.set_0 | apply IsS86.set_1) | exact HI30107.out)); (case side2 => repeat (first | (with_reducible first | exact HB.out | apply below_alloc | apply pw_below_drewN | apply below_drew1 | refine below_set ?_ (IsS86.ge HI30107.out)) | exact HB.out)); rintro e w30 ⟨rfl, hi, hb, hk⟩; refine ⟨_, rfl, ?_⟩; have n0_ := Aside0.mk (hb); have n1_ := Aside0.mk (hi); clear HB; clear HI30107; have HB := n0_; have HI30107 := n1_; clear n0_ n1_; (try clear hb); (try clear hb2); (try clear hk); (try clear hi)))
                go_roundg k1
                case measure => have := HK1.out; omega
                case rel => exact ⟨(x10_1), (wrap64 (x11_1 + 1)), (t30115), (t30116), (by first | rfl | (simp; done) | (simp [*]; done)), (by first | rfl | (simp; done) | (simp [*]; done)), H', ⟨by have := HK1.out; omega⟩, ⟨by repeat (first | (with_reducible first | exact HI30107.out | apply IsS86.alloc | apply IsS86.drewN | apply IsS86.drew | apply IsS86.set_0 | apply IsS86.set_1) | exact HI30107.out)⟩, ⟨by repeat (first | (with_reducible first | exact HB.out | apply below_alloc | apply pw_below_drewN | apply below_drew1 | refine below_set ?_ (IsS86.ge HI30107.out)) | exact HB.out)⟩⟩
              · rw [if_neg c29] at H
                have c29b0 : (t30114 == 46) = false := beq_eq_false_iff_ne.mpr c29
                have c29b1 : (t30114 != 46) = true := bne_iff_ne.mpr c29
                obtain ⟨y30117, hy30117⟩ : ∃ y_ : List Int, y_ = (([t30114] : List Int)) := ⟨_, rfl⟩
                replace H : (if x10_1.size + (strOfNums y30117).size ≤ 9223372036854775807 then (plaitinglaw7_LaneIdle.l0 k1 a2 t30103 t30104 (x10_1 ++ (strOfNums y30117)) (wrap64 (x11_1 + 1)) t30115 t30116) else (none)) = some r := by first | (rw [hy30117]; with_reducible exact H) | (have H2_ := (Option.bind_some _ _).symm.trans H; rw [hy30117]; with_reducible exact H2_) | (have H2_ := (Option.bind_some _ _).symm.trans H; with_reducible exact H2_) | with_reducible exact H | (rw [hy30117]; exact H) | exact H
                have Ny30117 := Aside0.mk hy30117
                clear hy30117
                by_cases c31 : x10_1.size + (strOfNums y30117).size ≤ 9223372036854775807
                · rw [if_pos c31] at H
                  have c31b0 := eq_true c31
                  have c31b1 : decide (x10_1.size + (strOfNums y30117).size ≤ 9223372036854775807) = true := decide_eq_true c31
                  try have c31b2 : (9223372036854775807 < x10_1.size + (strOfNums y30117).size) = False := eq_false (Nat.not_lt.2 c31)
                  have H' := Aside0.mk H
                  clear H
                  have p27 : 0 ≤ (x11_1 : Int) := of_decide_eq_true (by first | (with_reducible assumption) | assumption)
                  have q27 : x11_1 < (t30103.size : Int) := of_decide_eq_true (by first | (with_reducible assumption) | assumption)
                  have hx27 := bt_at t30103 x11_1
                  replace p27 := eq_true p27
                  replace q27 := eq_true q27
                  go_wp2_with (first | ((with_reducible refine gate_callee (f := 45) rfl ?_); refine goesL_ (some 45) rfl rfl Try.func45 (by kernel_rfl) rfl #[.pointer (some ⟨g30107, 0, none⟩), .int .u8 (bt t30103 x11_1), .int .u8 46] rfl (by (try simp only [List.map_toArray, List.map_cons, List.map_nil]); first | done | rfl | (simp only [List.length_drop, List.length_take]; rfl)) ?_; (with_reducible refine (lane_Lane_Step.calls g30107 x30108000_1 x30108001_1 (bt t30103 x11_1) 46 t30114 t30115 t30116 w _ ?side1 ?side2 A28.out).mono ?_); (case side1 => repeat (first | (with_reducible first | exact HI30107.out | apply IsS86.alloc | apply IsS86.drewN | apply IsS86.drew | apply IsS86.set_0 | apply IsS86.set_1) | exact HI30107.out)); (case side2 => repeat (first | (with_reducible first | exact HB.out | apply below_alloc | apply pw_below_drewN | apply below_drew1 | refine below_set ?_ (IsS86.ge HI30107.out)) | exact HB.out)); rintro e w32 ⟨rfl, hi, hb, hk⟩; refine ⟨_, rfl, ?_⟩; have n0_ := Aside0.mk (hb); have n1_ := Aside0.mk (hi); clear HB; clear HI30107; have HB := n0_; have HI30107 := n1_; clear n0_ n1_; (try clear hb); (try clear hb2); (try clear hk); (try clear hi)) | ((with_reducible refine gate_dst (N := 50) rfl ?_); refine Kd.R_lit (Kd.int .u8) _ 5 ?hg (N := 50) ?hd (xs := ([t30114] : List Int)) (inner := [.int .u8 t30114]) (ok := fun _ => True) (okp := fun _ => True) ?hr ?hp (fun _ hk => hk) trivial (Below.refl _ _) (Nat.le_refl _) (by simp) ?_; (case hd => rfl); (case hg => rfl); (case hr => first | (go_simp; done) | (go_simp; rfl)); (case hp => exact (Reps.one (show Kd.M (Kd.int .u8) _ _ _ t30114 [.int .u8 t30114] from rfl) (Reps.none _ _))); intro v30118 w33 ho34 hb hg_ hnew_; clear hg_ hnew_; (first | rw [← Ny30117.out] at ho34 | (simp only [Int.reduceToNat] at ho34; rw [← Ny30117.out] at ho34)); have n0_ := Aside0.mk (Kd.R_lower ho34 (below_size (by repeat (first | (with_reducible first | exact HB.out | apply below_alloc | apply pw_below_drewN | apply below_drew1 | refine below_set ?_ (IsS86.ge HI30107.out)) | exact HB.out)))); have n1_ := Aside0.mk (IsS86.below (by repeat (first | (with_reducible first | exact HI30107.out | apply IsS86.alloc | apply IsS86.drewN | apply IsS86.drew | apply IsS86.set_0 | apply IsS86.set_1) | exact HI30107.out)) hb); have n2_ := Aside0.mk (below_step (by repeat (first | (with_reducible first | exact HB.out | apply below_alloc | apply pw_below_drewN | apply below_drew1 | refine below_set ?_ (IsS86.ge HI30107.out)) | exact HB.out)) hb); clear HI30107; clear HB; have HO30119 := n0_; have HI30107 := n1_; have HB := n2_; clear n0_ n1_ n2_; clear hb ho34; have hcv35 := own_string (P := Try.prog) Try.underlying52 Try.underlying5 Try.underlying9 (Kd.own_of_R HO30119.out)))
                  go_roundg k1
                  case measure => have := HK1.out; omega
                  case rel => exact ⟨(x10_1 ++ (strOfNums y30117)), (wrap64 (x11_1 + 1)), (t30115), (t30116), (by first | rfl | (simp; done) | (simp [*]; done)), (by first | rfl | (simp; done) | (simp [*]; done)), H', ⟨by have := HK1.out; omega⟩, ⟨by repeat (first | (with_reducible first | exact HI30107.out | apply IsS86.alloc | apply IsS86.drewN | apply IsS86.drew | apply IsS86.set_0 | apply IsS86.set_1) | exact HI30107.out)⟩, ⟨by repeat (first | (with_reducible first | exact HB.out | apply below_alloc | apply pw_below_drewN | apply below_drew1 | refine below_set ?_ (IsS86.ge HI30107.out)) | exact HB.out)⟩⟩
                · rw [if_neg c31] at H
                  exact absurd H (by simp)
            · rw [if_neg c26] at H
              exact absurd H (by simp)
        · rw [if_neg c13] at H
          have c13b0 : decide (x11_1 < (t30103.size : Int)) = false := decide_eq_false c13
          clear c13
          by_cases c36 : a2 = true
          · subst c36
            have H1 : (if 0 ≤ t30104 then (if t30104 ≤ (t30103.size : Int) then (if x10_1.toList = (t30103.extract 0 (t30104 : Int).toNat).toList then ((lane_Out.f true t30103 (t30103.extract 0 (t30104 : Int).toNat)).bind fun t30120 => (some (t30120.toList == (t30103.extract 0 (t30104 : Int).toNat).toList))) else (some false)) else (none)) else (none)) = some r := by rw [if_pos rfl] at H; exact H
            clear H
            have H := H1
            clear H1
            by_cases c37 : 0 ≤ t30104
            · rw [if_pos c37] at H
              have c37b0 := eq_true c37
              have c37b1 : decide (0 ≤ t30104) = true := decide_eq_true c37
              clear c37
              by_cases c38 : t30104 ≤ (t30103.size : Int)
              · rw [if_pos c38] at H
                have c38b0 := eq_true c38
                have c38b1 : decide (t30104 ≤ (t30103.size : Int)) = true := decide_eq_true c38
                clear c38
                by_cases c39 : x10_1.toList = (t30103.extract 0 (t30104 : Int).toNat).toList
                · rw [if_pos c39] at H
                  have c39b0 : (x10_1.toList == (t30103.extract 0 (t30104 : Int).toNat).toList) = true := beq_iff_eq.mpr c39
                  have c39b1 : (x10_1.toList != (t30103.extract 0 (t30104 : Int).toNat).toList) = false := bne_eq_false_iff_eq.mpr c39
                  clear c39
                  have c40b0 := eq_true (of_decide_eq_true (by first | (with_reducible assumption) | assumption) : 0 ≤ t30104)
                  have c41b0 := eq_true (of_decide_eq_true (by first | (with_reducible assumption) | assumption) : t30104 ≤ (t30103.size : Int))
                  replace H := Option.bind_eq_some_iff.mp H
                  obtain ⟨t30120, A420, H⟩ := H
                  replace H : (some (t30120.toList == (t30103.extract 0 (t30104 : Int).toNat).toList)) = some r := H
                  have A42 := Aside0.mk A420
                  clear A420
                  have c43b0 := eq_true (of_decide_eq_true (by first | (with_reducible assumption) | assumption) : 0 ≤ t30104)
                  have c44b0 := eq_true (of_decide_eq_true (by first | (with_reducible assumption) | assumption) : t30104 ≤ (t30103.size : Int))
                  obtain rfl := Option.some.inj H
                  try go_wp2
                  have n0_ := Aside0.mk (IsS86.drew HI30107.out)
                  have n1_ := Aside0.mk (below_drew1 HB.out)
                  clear HI30107
                  clear HB
                  have HI30107 := n0_
                  have HB := n1_
                  clear n0_ n1_
                  refine start_ (n := 17) (S := fun w' => True) (ds := []) #[false, false, false, false, false, false, false, false, false, false, false, false, false, false, false, false, false] (by kernel_rfl) rfl rfl trivial (fun hHeld => ?_); refine with_tabW plaitinglaw7_LaneIdle.tab19 plaitinglaw7_LaneIdle.bits19 (fun HT_ HW_ => ?_)
                  generalize wr.drew = w45 at HI30107 HB hHeld ⊢
                  refine pure_ (i := 0) (N := some 54) (v := ?_) (a' := ?_) #[true, false, false, false, false, false, false, false, false, false, false, false, false, false, false, false, false] rfl rfl (any_of HT_.out (by kernel_rfl)) (fun _ _ _ h => h) (Or.inl ⟨by rfl, ?_⟩) ?_ ?_
                  rotate_left
                  · intro w'
                    go_simp
                    with_reducible rfl
                  rotate_left
                  · simp only [Act.put, List.setIfInBounds_toArray, List.set_cons_zero, List.set_cons_succ, i64_w, i32_w]
                    rfl
                  refine pure_ (i := 1) (N := some 55) (v := ?_) (a' := ?_) #[true, true, false, false, false, false, false, false, false, false, false, false, false, false, false, false, false] rfl rfl (any_of HT_.out (by kernel_rfl)) (fun _ _ _ h => h) (Or.inl ⟨by rfl, ?_⟩) ?_ ?_
                  rotate_left
                  · intro w'
                    go_simp
                    with_reducible rfl
                  rotate_left
                  · simp only [Act.put, List.setIfInBounds_toArray, List.set_cons_zero, List.set_cons_succ, i64_w, i32_w]
                    rfl
                  refine pure_ (i := 2) (N := some 56) (v := ?_) (a' := ?_) #[true, true, true, false, false, false, false, false, false, false, false, false, false, false, false, false, false] rfl rfl (any_of HT_.out (by kernel_rfl)) (fun _ _ _ h => h) (Or.inl ⟨by rfl, ?_⟩) ?_ ?_
                  rotate_left
                  · intro w'
                    go_simp
                    with_reducible rfl
                  rotate_left
                  · simp only [Act.put, List.setIfInBounds_toArray, List.set_cons_zero, List.set_cons_succ, i64_w, i32_w]
                    rfl
                  refine pure_ (i := 3) (N := some 57) (v := ?_) (a' := ?_) #[true, true, true, true, false, false, false, false, false, false, false, false, false, false, false, false, false] rfl rfl (any_of HT_.out (by kernel_rfl)) (fun _ _ _ h => h) (Or.inl ⟨by rfl, ?_⟩) ?_ ?_
                  rotate_left
                  · intro w'
                    go_simp
                    with_reducible rfl
                  rotate_left
                  · simp only [Act.put, List.setIfInBounds_toArray, List.set_cons_zero, List.set_cons_succ, i64_w, i32_w]
                    rfl
                  refine pure_ (i := 4) (N := some 58) (v := ?_) (a' := ?_) #[true, true, true, true, true, false, false, false, false, false, false, false, false, false, false, false, false] rfl rfl (any_of HT_.out (by kernel_rfl)) (fun _ _ _ h => h) (Or.inl ⟨by rfl, ?_⟩) ?_ ?_
                  rotate_left
                  · intro w'
                    go_simp
                    with_reducible rfl
                  rotate_left
                  · simp only [Act.put, List.setIfInBounds_toArray, List.set_cons_zero, List.set_cons_succ, i64_w, i32_w]
                    rfl
                  refine pure_ (i := 5) (N := some 59) (v := ?_) (a' := ?_) #[true, true, true, true, true, true, false, false, false, false, false, false, false, false, false, false, false] rfl rfl (any_of HT_.out (by kernel_rfl)) (fun _ _ _ h => h) (Or.inl ⟨by rfl, ?_⟩) ?_ ?_
                  rotate_left
                  · intro w'
                    go_simp
                    with_reducible rfl
                  rotate_left
                  · simp only [Act.put, List.setIfInBounds_toArray, List.set_cons_zero, List.set_cons_succ, i64_w, i32_w]
                    rfl
                  refine pure_ (i := 6) (N := some 60) (v := ?_) (a' := ?_) #[true, true, true, true, true, true, true, false, false, false, false, false, false, false, false, false, false] rfl rfl (any_of HT_.out (by kernel_rfl)) (fun _ _ _ h => h) (Or.inl ⟨by rfl, ?_⟩) ?_ ?_
                  rotate_left
                  · intro w'
                    go_simp
                    with_reducible rfl
                  rotate_left
                  · simp only [Act.put, List.setIfInBounds_toArray, List.set_cons_zero, List.set_cons_succ, i64_w, i32_w]
                    rfl
                  refine pure_ (i := 7) (N := some 61) (v := ?_) (a' := ?_) #[true, true, true, true, true, true, true, true, false, false, false, false, false, false, false, false, false] rfl rfl (any_of HT_.out (by kernel_rfl)) (fun _ _ _ h => h) (Or.inl ⟨by rfl, ?_⟩) ?_ ?_
                  rotate_left
                  · intro w'
                    go_simp
                    with_reducible rfl
                  rotate_left
                  · simp only [Act.put, List.setIfInBounds_toArray, List.set_cons_zero, List.set_cons_succ, i64_w, i32_w]
                    rfl
                  refine pure_ (i := 8) (N := some 62) (v := ?_) (a' := ?_) #[true, true, true, true, true, true, true, true, true, false, false, false, false, false, false, false, false] rfl rfl (any_of HT_.out (by kernel_rfl)) (fun _ _ _ h => h) (Or.inl ⟨by rfl, ?_⟩) ?_ ?_
                  rotate_left
                  · intro w'
                    go_simp
                    with_reducible rfl
                  rotate_left
                  · simp only [Act.put, List.setIfInBounds_toArray, List.set_cons_zero, List.set_cons_succ, i64_w, i32_w]
                    rfl
                  refine pure_ (i := 9) (N := some 63) (v := ?_) (a' := ?_) #[true, true, true, true, true, true, true, true, true, true, false, false, false, false, false, false, false] rfl rfl (any_of HT_.out (by kernel_rfl)) (fun _ _ _ h => h) (Or.inl ⟨by rfl, ?_⟩) ?_ ?_
                  rotate_left
                  · intro w'
                    go_simp
                    with_reducible rfl
                  rotate_left
                  · simp only [Act.put, List.setIfInBounds_toArray, List.set_cons_zero, List.set_cons_succ, i64_w, i32_w]
                    rfl
                  refine pure_ (i := 11) (N := some 65) (v := ?_) (a' := ?_) #[true, true, true, true, true, true, true, true, true, true, false, true, false, false, false, false, false] rfl rfl (any_of HT_.out (by kernel_rfl)) (fun _ _ _ h => h) (Or.inl ⟨by rfl, ?_⟩) ?_ ?_
                  rotate_left
                  · intro w'
                    go_simp
                    with_reducible rfl
                  rotate_left
                  · simp only [Act.put, List.setIfInBounds_toArray, List.set_cons_zero, List.set_cons_succ, i64_w, i32_w]
                    rfl
                  refine pure_ (i := 12) (N := some 66) (v := ?_) (a' := ?_) #[true, true, true, true, true, true, true, true, true, true, false, true, true, false, false, false, false] rfl rfl (any_of HT_.out (by kernel_rfl)) (fun _ _ _ h => h) (Or.inl ⟨by rfl, ?_⟩) ?_ ?_
                  rotate_left
                  · intro w'
                    go_simp
                    with_reducible rfl
                  rotate_left
                  · simp only [Act.put, List.setIfInBounds_toArray, List.set_cons_zero, List.set_cons_succ, i64_w, i32_w]
                    rfl
                  refine pure_ (i := 13) (N := some 67) (v := ?_) (a' := ?_) #[true, true, true, true, true, true, true, true, true, true, false, true, true, true, false, false, false] rfl rfl (any_of HT_.out (by kernel_rfl)) (fun _ _ _ h => h) (Or.inl ⟨by rfl, ?_⟩) ?_ ?_
                  rotate_left
                  · intro w'
                    go_simp
                    with_reducible rfl
                  rotate_left
                  · simp only [Act.put, List.setIfInBounds_toArray, List.set_cons_zero, List.set_cons_succ, i64_w, i32_w]
                    rfl
                  refine one_ (i := 10) (N := some 64) #[true, true, true, true, true, true, true, true, true, true, true, true, true, true, false, false, false] rfl rfl (one_of HT_.out (by kernel_rfl)) (by decide) (fun K hK => ?_)
                  refine goes_ Try.func41 (by kernel_rfl) rfl #[.bool true, .string t30103, .string (t30103.extract 0 (t30104 : Int).toNat)] (by rfl) rfl rfl (by (try simp only [List.map_toArray, List.map_cons, List.map_nil]); first | done | rfl | (simp only [List.length_drop, List.length_take]; rfl)) ?_
                  with_reducible refine (lane_Out.calls true t30103 (t30103.extract 0 (t30104 : Int).toNat) t30120 _ A42.out).mono ?_
                  rintro e w46 ⟨rfl, hb⟩
                  refine ⟨_, rfl, ?_⟩
                  have n0_ := Aside0.mk (IsS86.below (by repeat (first | (with_reducible first | exact HI30107.out | apply IsS86.alloc | apply IsS86.drewN | apply IsS86.drew | apply IsS86.set_0 | apply IsS86.set_1) | exact HI30107.out)) hb)
                  have n1_ := Aside0.mk (below_step (by repeat (first | (with_reducible first | exact HB.out | apply below_alloc | apply pw_below_drewN | apply below_drew1 | refine below_set ?_ (IsS86.ge HI30107.out)) | exact HB.out)) hb)
                  clear HI30107
                  clear HB
                  have HI30107 := n0_
                  have HB := n1_
                  clear n0_ n1_
                  (try clear hb)
                  (try clear hb2)
                  (try clear hk)
                  (try clear hi)
                  refine hK.out _ _ trivial (fun hHeld => ?_)
                  clear hK K
                  refine norm_ (a' := ?_) ?_ ?_
                  rotate_left
                  · show Act.put _ (some 64) _ = _
                    simp only [Act.put, List.setIfInBounds_toArray, List.set_cons_zero, List.set_cons_succ, i64_w, i32_w]
                    rfl
                  refine pure_ (i := 14) (N := some 68) (v := ?_) (a' := ?_) #[true, true, true, true, true, true, true, true, true, true, true, true, true, true, true, false, false] rfl rfl (any_of HT_.out (by kernel_rfl)) (fun _ _ _ h => h) (Or.inl ⟨by rfl, ?_⟩) ?_ ?_
                  rotate_left
                  · intro w'
                    go_simp
                    with_reducible rfl
                  rotate_left
                  · simp only [Act.put, List.setIfInBounds_toArray, List.set_cons_zero, List.set_cons_succ, i64_w, i32_w]
                    rfl
                  refine pure_ (i := 15) (N := some 69) (v := ?_) (a' := ?_) #[true, true, true, true, true, true, true, true, true, true, true, true, true, true, true, true, false] rfl rfl (any_of HT_.out (by kernel_rfl)) (fun _ _ _ h => h) (Or.inl ⟨by rfl, ?_⟩) ?_ ?_
                  rotate_left
                  · intro w'
                    go_simp
                    with_reducible rfl
                  rotate_left
                  · simp only [Act.put, List.setIfInBounds_toArray, List.set_cons_zero, List.set_cons_succ, i64_w, i32_w]
                    rfl
                  refine pure_ (i := 16) (N := some 6) (v := ?_) (a' := ?_) #[true, true, true, true, true, true, true, true, true, true, true, true, true, true, true, true, true] rfl rfl (any_of HT_.out (by kernel_rfl)) (fun _ _ _ h => h) (Or.inl ⟨by rfl, ?_⟩) ?_ ?_
                  rotate_left
                  · intro w'
                    go_simp
                    with_reducible rfl
                  rotate_left
                  · simp only [Act.put, List.setIfInBounds_toArray, List.set_cons_zero, List.set_cons_succ, i64_w, i32_w]
                    rfl
                  refine done_ (done_of HT_.out (by kernel_rfl)) ?_
                  try go_wp2
                  go_ret
                  exact ⟨by first | rfl | (simp [errW_none, errW_some] <;> rfl) | (simp [*, errW_none, errW_some] <;> rfl), by repeat (first | (with_reducible first | exact HB.out | apply below_alloc | apply pw_below_drewN | apply below_drew1 | refine below_set ?_ (IsS86.ge HI30107.out)) | exact HB.out)⟩
                · rw [if_neg c39] at H
                  have c39b0 : (x10_1.toList == (t30103.extract 0 (t30104 : Int).toNat).toList) = false := beq_eq_false_iff_ne.mpr c39
                  have c39b1 : (x10_1.toList != (t30103.extract 0 (t30104 : Int).toNat).toList) = true := bne_iff_ne.mpr c39
                  exact absurd ((Option.some.inj H).trans HRT.out) (by decide)
              · rw [if_neg c38] at H
                exact absurd H (by simp)
            · rw [if_neg c37] at H
              exact absurd H (by simp)
          · replace c36 := Bool.eq_false_iff.mpr c36
            subst c36
            have H1 : (if x10_1.toList = t30103.toList then (if 0 ≤ t30104 then (if t30104 ≤ (t30103.size : Int) then ((lane_Out.f false t30103 (t30103.extract 0 (t30104 : Int).toNat)).bind fun t30121 => (some (t30121.toList == t30103.toList))) else (none)) else (none)) else (some false)) = some r := by rw [if_neg (show ¬ (false = true) by decide)] at H; exact H
            clear H
            have H := H1
            clear H1
            by_cases c47 : x10_1.toList = t30103.toList
            · rw [if_pos c47] at H
              have c47b0 : (x10_1.toList == t30103.toList) = true := beq_iff_eq.mpr c47
              have c47b1 : (x10_1.toList != t30103.toList) = false := bne_eq_false_iff_eq.mpr c47
              clear c47
              by_cases c48 : 0 ≤ t30104
              · rw [if_pos c48] at H
                have c48b0 := eq_true c48
                have c48b1 : decide (0 ≤ t30104) = true := decide_eq_true c48
                clear c48
                by_cases c49 : t30104 ≤ (t30103.size : Int)
                · rw [if_pos c49] at H
                  have c49b0 := eq_true c49
                  have c49b1 : decide (t30104 ≤ (t30103.size : Int)) = true := decide_eq_true c49
                  clear c49
                  replace H := Option.bind_eq_some_iff.mp H
                  obtain ⟨t30121, A500, H⟩ := H
                  replace H : (some (t30121.toList == t30103.toList)) = some r := H
                  have A50 := Aside0.mk A500
                  clear A500
                  obtain rfl := Option.some.inj H
                  go_wp2_with (first | (go_at_call 41; (with_reducible refine (lane_Out.calls false t30103 (t30103.extract 0 (t30104 : Int).toNat) t30121 _ A50.out).mono ?_); rintro e w51 ⟨rfl, hb⟩; have n0_ := Aside0.mk (IsS86.below (by repeat (first | (with_reducible first | exact HI30107.out | apply IsS86.alloc | apply IsS86.drewN | apply IsS86.drew | apply IsS86.set_0 | apply IsS86.set_1) | exact HI30107.out)) hb); have n1_ := Aside0.mk (below_step (by repeat (first | (with_reducible first | exact HB.out | apply below_alloc | apply pw_below_drewN | apply below_drew1 | refine below_set ?_ (IsS86.ge HI30107.out)) | exact HB.out)) hb); clear HI30107; clear HB; have HI30107 := n0_; have HB := n1_; clear n0_ n1_; (try clear hb); (try clear hb2); (try clear hk); (try clear hi)))
                  go_ret
                  exact ⟨by first | rfl | (simp [errW_none, errW_some] <;> rfl) | (simp [*, errW_none, errW_some] <;> rfl), by repeat (first | (with_reducible first | exact HB.out | apply below_alloc | apply pw_below_drewN | apply below_drew1 | refine below_set ?_ (IsS86.ge HI30107.out)) | exact HB.out)⟩
                · rw [if_neg c49] at H
                  exact absurd H (by simp)
              · rw [if_neg c48] at H
                exact absurd H (by simp)
            · rw [if_neg c47] at H
              have c47b0 : (x10_1.toList == t30103.toList) = false := beq_eq_false_iff_ne.mpr c47
              have c47b1 : (x10_1.toList != t30103.toList) = true := bne_iff_ne.mpr c47
              exact absurd ((Option.some.inj H).trans HRT.out) (by decide)
  · replace c5 := Bool.eq_false_iff.mpr c5
    subst c5
    have H1 : (some false) = some r := by rw [if_neg (show ¬ (false = true) by decide)] at H; exact H
    clear H
    have H := H1
    clear H1
    exact absurd ((Option.some.inj H).trans HRT.out) (by decide)

/-- THE ONE PURE STATEMENT of plaitinglaw7_LaneIdle: yours. -/
def plaitinglaw7_LaneIdle.Pure : Prop := ∀ (l0 : List Int) (a1 : Int) (a2 : Bool), l0.length ≤ maxLen → l0.length * 8 ≤ 140737488351232 → (∀ x ∈ l0, (Lit.int .i64 x).wf = true) → (Lit.int .i64 a1).wf = true → ∃ k, plaitinglaw7_LaneIdle.f k l0 a1 a2 = some true
theorem plaitinglaw7_LaneIdle.walk (P : plaitinglaw7_LaneIdle.Pure) (a0 : Option Addr) (len0 cap0 : Nat) (z0 : List Int) (a1 : Int) (a2 : Bool) (w : World) (w0 : (a0 = none ∧ len0 = 0 ∧ cap0 = 0 ∧ z0 = []) ∨ ∃ x, a0 = some x ∧ len0 ≤ cap0 ∧ cap0 ≤ maxLen ∧ z0.length = cap0 ∧ (∀ i, i < z0.length → w.cell? (x.add i) = some (.int .i64 (z0.getD i 0))) ∧ ∀ n ∈ z0, (Lit.int .i64 n).wf = true) (y0 : len0 * 8 ≤ 140737488351232) (w1 : (Lit.int .i64 a1).wf = true) :
    Calls Try.prog 15 #[.slice a0 len0 cap0, .int .i64 a1, .bool a2] w fun e w' => e = .returned (.bool true) ∧ Below w.heap.size w w' := by
  obtain ⟨l0, rfl, hr0, hm0, hw0, hc0⟩ := ReadsInt.ofRowC w0
  obtain ⟨k, h⟩ := P l0 a1 a2 hm0 y0 hw0 w1
  refine (plaitinglaw7_LaneIdle.calls k _ _ l0 a1 a2 true w (Kd.C_of_reads (d := (0 : Int)) (h1 := fun _ => rfl) hr0) hc0 rfl h).mono ?_
  rintro e w' ⟨rfl, hd⟩
  exact ⟨rfl, hd⟩

end Go.Proofs.Ytdkbalaphblobaa.P
