/- Printed by a program of this session (myprint) out of the translation: the functions as plain Lean functions, and that the calls compute them. What counts is Lean's check. -/
import Derived.Test.YtdkbalaphblobaaPx0
import Derived.Test.YtdkbalaphblobaaPx1
import Derived.Test.YtdkbalaphblobaaPx2
import Derived.Test.YtdkbalaphblobaaPx6
namespace Go.Proofs.Ytdkbalaphblobaa.P
open Go.RowKit Go.Proofs.YtdkbalaphblobaaW.PrintWords Go.Proofs.YtdkbalaphblobaaW.PrintLast Go.Proofs.YtdkbalaphblobaaW.PrintMore
attribute [local go_sem] max2_int min2_int max_two min_two max_three min_three max_four min_four   -- for this text's walks alone
set_option linter.unusedVariables false
set_option linter.unusedSimpArgs false

/-! ### plaitinglaw4_RingLinks: function 5 -/
mutual
def plaitinglaw4_RingLinks.j0 : Nat → Int → Int → Bool → Option (Bool)
  | 0, _, _, _ => none
  | k + 1, x0, x7, x66 => if x66 = true then (some false) else (plaitinglaw4_RingLinks.l0 k x0 x7 0)
def plaitinglaw4_RingLinks.l0 : Nat → Int → Int → Int → Option (Bool)
  | 0, _, _, _ => none
  | k + 1, x0, x7, x15 => if x15 < x0 then ((ring_Link.f x0 x7 x15).bind fun bt10111 => ((plaitingref4_Dist.f x0 x7 x15 1).bind fun t10113 => ((plaitingref4_Dist.f x0 x7 x15 (-1)).bind fun t10114 => (if (mn t10113 t10114) = 1 then (if (bt10111.2 != true) = true then (some false) else (plaitinglaw4_RingLinks.l0 k x0 x7 (wrap64 (x15 + 1)))) else (if (bt10111.2 != ((mn t10113 t10114) == 2)) = true then (some false) else (plaitinglaw4_RingLinks.l0 k x0 x7 (wrap64 (x15 + 1)))))))) else (some true)
end
def plaitinglaw4_RingLinks.f (k : Nat) (a0 : Int) (a1 : Int) (a2 : Int) : Option (Bool) := (plaitinglaw4_known.f).bind fun t10101 => (if t10101 = true then ((plaitinglaw4_within.f a0 7).bind fun t10102 => ((plaitinglaw4_within.f a1 (wrap64 (6 + t10102))).bind fun t10103 => ((plaitinglaw4_within.f a2 (wrap64 (2 * (wrap64 (6 + t10102))))).bind fun t10104 => ((ring_Ends.f (wrap64 (6 + t10102)) t10104).bind fun bt10105 => ((ring_Link.f (wrap64 (6 + t10102)) bt10105.1 bt10105.2).bind fun bt10107 => ((ring_Link.f (wrap64 (6 + t10102)) bt10105.2 bt10105.1).bind fun bt10109 => (if bt10107.2 = true then (if bt10109.2 = true then (if bt10107.1 = t10104 then (plaitinglaw4_RingLinks.j0 k (wrap64 (6 + t10102)) t10103 (bt10109.1 != t10104)) else (plaitinglaw4_RingLinks.j0 k (wrap64 (6 + t10102)) t10103 true)) else (plaitinglaw4_RingLinks.j0 k (wrap64 (6 + t10102)) t10103 true)) else (plaitinglaw4_RingLinks.j0 k (wrap64 (6 + t10102)) t10103 true)))))))) else (some false))
theorem plaitinglaw4_RingLinks.mono_l : ∀ k, (∀ y0 y1 y2, LeO (plaitinglaw4_RingLinks.j0 k y0 y1 y2) (plaitinglaw4_RingLinks.j0 (k + 1) y0 y1 y2)) ∧ (∀ y0 y1 y2, LeO (plaitinglaw4_RingLinks.l0 k y0 y1 y2) (plaitinglaw4_RingLinks.l0 (k + 1) y0 y1 y2))
  | 0 => ⟨fun _ _ _ r h => by simp [plaitinglaw4_RingLinks.j0] at h, fun _ _ _ r h => by simp [plaitinglaw4_RingLinks.l0] at h⟩
  | k + 1 => by
    obtain ⟨ih0, ih1⟩ := plaitinglaw4_RingLinks.mono_l k
    refine ⟨?_, ?_⟩
    · intro y0 y1 y2
      unfold plaitinglaw4_RingLinks.j0
      repeat' first
      | (with_reducible exact ih0 _ _ _)
      | (with_reducible exact ih1 _ _ _)
      | (with_reducible exact LeO.refl _)
      | (with_reducible exact LeO.none _)
      | (with_reducible refine LeO.ite ?_ ?_)
      | (with_reducible refine LeO.bind ?_ (fun _ => ?_))
      | exact ih0 _ _ _
      | exact ih1 _ _ _
      | exact LeO.none _
      | refine LeO.ite ?_ ?_
      | refine LeO.bind ?_ (fun _ => ?_)
    · intro y0 y1 y2
      unfold plaitinglaw4_RingLinks.l0
      repeat' first
      | (with_reducible exact ih0 _ _ _)
      | (with_reducible exact ih1 _ _ _)
      | (with_reducible exact LeO.refl _)
      | (with_reducible exact LeO.none _)
      | (with_reducible refine LeO.ite ?_ ?_)
      | (with_reducible refine LeO.bind ?_ (fun _ => ?_))
      | exact ih0 _ _ _
      | exact ih1 _ _ _
      | exact LeO.none _
      | refine LeO.ite ?_ ?_
      | refine LeO.bind ?_ (fun _ => ?_)
theorem plaitinglaw4_RingLinks.mono : ∀ a0 a1 a2 k, LeO (plaitinglaw4_RingLinks.f k a0 a1 a2) (plaitinglaw4_RingLinks.f (k + 1) a0 a1 a2) := by
  intro a0 a1 a2 k
  obtain ⟨ih0, ih1⟩ := plaitinglaw4_RingLinks.mono_l k
  unfold plaitinglaw4_RingLinks.f
  repeat' first
      | (with_reducible exact ih0 _ _ _)
      | (with_reducible exact ih1 _ _ _)
      | (with_reducible exact LeO.refl _)
      | (with_reducible exact LeO.none _)
      | (with_reducible refine LeO.ite ?_ ?_)
      | (with_reducible refine LeO.bind ?_ (fun _ => ?_))
      | exact ih0 _ _ _
      | exact ih1 _ _ _
      | exact LeO.none _
      | refine LeO.ite ?_ ?_
      | refine LeO.bind ?_ (fun _ => ?_)
set_option maxHeartbeats 8000000 in
set_option maxRecDepth 100000 in
theorem plaitinglaw4_RingLinks.calls (k : Nat) (a0 : Int) (a1 : Int) (a2 : Int) (r : Bool) (w : World) (hrt : r = true) (h : plaitinglaw4_RingLinks.f k a0 a1 a2 = some r) :
    Calls Try.prog 5 #[.int .i64 a0, .int .i64 a1, .int .i64 a2] w fun e w' => e = .returned (.bool r) ∧ Below w.heap.size w w' := by
  have HRT := Aside0.mk hrt
  clear hrt
  have HB := Aside0.mk (Below.refl w.heap.size w)
  have H : ((plaitinglaw4_known.f).bind fun t10101 => (if t10101 = true then ((plaitinglaw4_within.f a0 7).bind fun t10102 => ((plaitinglaw4_within.f a1 (wrap64 (6 + t10102))).bind fun t10103 => ((plaitinglaw4_within.f a2 (wrap64 (2 * (wrap64 (6 + t10102))))).bind fun t10104 => ((ring_Ends.f (wrap64 (6 + t10102)) t10104).bind fun bt10105 => ((ring_Link.f (wrap64 (6 + t10102)) bt10105.1 bt10105.2).bind fun bt10107 => ((ring_Link.f (wrap64 (6 + t10102)) bt10105.2 bt10105.1).bind fun bt10109 => (if bt10107.2 = true then (if bt10109.2 = true then (if bt10107.1 = t10104 then (plaitinglaw4_RingLinks.j0 k (wrap64 (6 + t10102)) t10103 (bt10109.1 != t10104)) else (plaitinglaw4_RingLinks.j0 k (wrap64 (6 + t10102)) t10103 true)) else (plaitinglaw4_RingLinks.j0 k (wrap64 (6 + t10102)) t10103 true)) else (plaitinglaw4_RingLinks.j0 k (wrap64 (6 + t10102)) t10103 true)))))))) else (some false))) = some r := h
  clear h
  replace H := Option.bind_eq_some_iff.mp H
  obtain ⟨t10101, A40, H⟩ := H
  replace H : (if t10101 = true then ((plaitinglaw4_within.f a0 7).bind fun t10102 => ((plaitinglaw4_within.f a1 (wrap64 (6 + t10102))).bind fun t10103 => ((plaitinglaw4_within.f a2 (wrap64 (2 * (wrap64 (6 + t10102))))).bind fun t10104 => ((ring_Ends.f (wrap64 (6 + t10102)) t10104).bind fun bt10105 => ((ring_Link.f (wrap64 (6 + t10102)) bt10105.1 bt10105.2).bind fun bt10107 => ((ring_Link.f (wrap64 (6 + t10102)) bt10105.2 bt10105.1).bind fun bt10109 => (if bt10107.2 = true then (if bt10109.2 = true then (if bt10107.1 = t10104 then (plaitinglaw4_RingLinks.j0 k (wrap64 (6 + t10102)) t10103 (bt10109.1 != t10104)) else (plaitinglaw4_RingLinks.j0 k (wrap64 (6 + t10102)) t10103 true)) else (plaitinglaw4_RingLinks.j0 k (wrap64 (6 + t10102)) t10103 true)) else (plaitinglaw4_RingLinks.j0 k (wrap64 (6 + t10102)) t10103 true)))))))) else (some false)) = some r := H
  have A4 := Aside0.mk A40
  clear A40
  by_cases c5 : t10101 = true
  · subst c5
    have H1 : ((plaitinglaw4_within.f a0 7).bind fun t10102 => ((plaitinglaw4_within.f a1 (wrap64 (6 + t10102))).bind fun t10103 => ((plaitinglaw4_within.f a2 (wrap64 (2 * (wrap64 (6 + t10102))))).bind fun t10104 => ((ring_Ends.f (wrap64 (6 + t10102)) t10104).bind fun bt10105 => ((ring_Link.f (wrap64 (6 + t10102)) bt10105.1 bt10105.2).bind fun bt10107 => ((ring_Link.f (wrap64 (6 + t10102)) bt10105.2 bt10105.1).bind fun bt10109 => (if bt10107.2 = true then (if bt10109.2 = true then (if bt10107.1 = t10104 then (plaitinglaw4_RingLinks.j0 k (wrap64 (6 + t10102)) t10103 (bt10109.1 != t10104)) else (plaitinglaw4_RingLinks.j0 k (wrap64 (6 + t10102)) t10103 true)) else (plaitinglaw4_RingLinks.j0 k (wrap64 (6 + t10102)) t10103 true)) else (plaitinglaw4_RingLinks.j0 k (wrap64 (6 + t10102)) t10103 true)))))))) = some r := by rw [if_pos rfl] at H; exact H
    clear H
    have H := H1
    clear H1
    replace H := Option.bind_eq_some_iff.mp H
    obtain ⟨t10102, A60, H⟩ := H
    replace H : ((plaitinglaw4_within.f a1 (wrap64 (6 + t10102))).bind fun t10103 => ((plaitinglaw4_within.f a2 (wrap64 (2 * (wrap64 (6 + t10102))))).bind fun t10104 => ((ring_Ends.f (wrap64 (6 + t10102)) t10104).bind fun bt10105 => ((ring_Link.f (wrap64 (6 + t10102)) bt10105.1 bt10105.2).bind fun bt10107 => ((ring_Link.f (wrap64 (6 + t10102)) bt10105.2 bt10105.1).bind fun bt10109 => (if bt10107.2 = true then (if bt10109.2 = true then (if bt10107.1 = t10104 then (plaitinglaw4_RingLinks.j0 k (wrap64 (6 + t10102)) t10103 (bt10109.1 != t10104)) else (plaitinglaw4_RingLinks.j0 k (wrap64 (6 + t10102)) t10103 true)) else (plaitinglaw4_RingLinks.j0 k (wrap64 (6 + t10102)) t10103 true)) else (plaitinglaw4_RingLinks.j0 k (wrap64 (6 + t10102)) t10103 true))))))) = some r := H
    have A6 := Aside0.mk A60
    clear A60
    replace H := Option.bind_eq_some_iff.mp H
    obtain ⟨t10103, A70, H⟩ := H
    replace H : ((plaitinglaw4_within.f a2 (wrap64 (2 * (wrap64 (6 + t10102))))).bind fun t10104 => ((ring_Ends.f (wrap64 (6 + t10102)) t10104).bind fun bt10105 => ((ring_Link.f (wrap64 (6 + t10102)) bt10105.1 bt10105.2).bind fun bt10107 => ((ring_Link.f (wrap64 (6 + t10102)) bt10105.2 bt10105.1).bind fun bt10109 => (if bt10107.2 = true then (if bt10109.2 = true then (if bt10107.1 = t10104 then (plaitinglaw4_RingLinks.j0 k (wrap64 (6 + t10102)) t10103 (bt10109.1 != t10104)) else (plaitinglaw4_RingLinks.j0 k (wrap64 (6 + t10102)) t10103 true)) else (plaitinglaw4_RingLinks.j0 k (wrap64 (6 + t10102)) t10103 true)) else (plaitinglaw4_RingLinks.j0 k (wrap64 (6 + t10102)) t10103 true)))))) = some r := H
    have A7 := Aside0.mk A70
    clear A70
    replace H := Option.bind_eq_some_iff.mp H
    obtain ⟨t10104, A80, H⟩ := H
    replace H : ((ring_Ends.f (wrap64 (6 + t10102)) t10104).bind fun bt10105 => ((ring_Link.f (wrap64 (6 + t10102)) bt10105.1 bt10105.2).bind fun bt10107 => ((ring_Link.f (wrap64 (6 + t10102)) bt10105.2 bt10105.1).bind fun bt10109 => (if bt10107.2 = true then (if bt10109.2 = true then (if bt10107.1 = t10104 then (plaitinglaw4_RingLinks.j0 k (wrap64 (6 + t10102)) t10103 (bt10109.1 != t10104)) else (plaitinglaw4_RingLinks.j0 k (wrap64 (6 + t10102)) t10103 true)) else (plaitinglaw4_RingLinks.j0 k (wrap64 (6 + t10102)) t10103 true)) else (plaitinglaw4_RingLinks.j0 k (wrap64 (6 + t10102)) t10103 true))))) = some r := H
    have A8 := Aside0.mk A80
    clear A80
    replace H := Option.bind_eq_some_iff.mp H
    obtain ⟨⟨t10105, t10106⟩, A90, H⟩ := H
    replace H : ((ring_Link.f (wrap64 (6 + t10102)) t10105 t10106).bind fun bt10107 => ((ring_Link.f (wrap64 (6 + t10102)) t10106 t10105).bind fun bt10109 => (if bt10107.2 = true then (if bt10109.2 = true then (if bt10107.1 = t10104 then (plaitinglaw4_RingLinks.j0 k (wrap64 (6 + t10102)) t10103 (bt10109.1 != t10104)) else (plaitinglaw4_RingLinks.j0 k (wrap64 (6 + t10102)) t10103 true)) else (plaitinglaw4_RingLinks.j0 k (wrap64 (6 + t10102)) t10103 true)) else (plaitinglaw4_RingLinks.j0 k (wrap64 (6 + t10102)) t10103 true)))) = some r := H
    have A9 := Aside0.mk A90
    clear A90
    replace H := Option.bind_eq_some_iff.mp H
    obtain ⟨⟨t10107, t10108⟩, A100, H⟩ := H
    replace H : ((ring_Link.f (wrap64 (6 + t10102)) t10106 t10105).bind fun bt10109 => (if t10108 = true then (if bt10109.2 = true then (if t10107 = t10104 then (plaitinglaw4_RingLinks.j0 k (wrap64 (6 + t10102)) t10103 (bt10109.1 != t10104)) else (plaitinglaw4_RingLinks.j0 k (wrap64 (6 + t10102)) t10103 true)) else (plaitinglaw4_RingLinks.j0 k (wrap64 (6 + t10102)) t10103 true)) else (plaitinglaw4_RingLinks.j0 k (wrap64 (6 + t10102)) t10103 true))) = some r := H
    have A10 := Aside0.mk A100
    clear A100
    replace H := Option.bind_eq_some_iff.mp H
    obtain ⟨⟨t10109, t10110⟩, A110, H⟩ := H
    replace H : (if t10108 = true then (if t10110 = true then (if t10107 = t10104 then (plaitinglaw4_RingLinks.j0 k (wrap64 (6 + t10102)) t10103 (t10109 != t10104)) else (plaitinglaw4_RingLinks.j0 k (wrap64 (6 + t10102)) t10103 true)) else (plaitinglaw4_RingLinks.j0 k (wrap64 (6 + t10102)) t10103 true)) else (plaitinglaw4_RingLinks.j0 k (wrap64 (6 + t10102)) t10103 true)) = some r := H
    have A11 := Aside0.mk A110
    clear A110
    have HC12 := Aside0.mk H
    clear H
    go_enter Try.func5, Try.ntmps5
    go_upto_region 8 with (first | ((with_reducible refine gate_callee (f := 18) rfl ?_); refine goesL_ (some 19) rfl rfl Try.func18 (by kernel_rfl) rfl #[] rfl (by (try simp only [List.map_toArray, List.map_cons, List.map_nil]); first | done | rfl | (simp only [List.length_drop, List.length_take]; rfl)) ?_; (with_reducible refine (plaitinglaw4_known.calls  true _ A4.out).mono ?_); rintro e w' ⟨rfl, ⟨nd, rfl⟩⟩; refine ⟨_, rfl, ?_⟩) | ((with_reducible refine gate_callee (f := 19) rfl ?_); refine goesL_ (some 22) rfl rfl Try.func19 (by kernel_rfl) rfl #[.int .i64 a0, .int .i64 7] rfl (by (try simp only [List.map_toArray, List.map_cons, List.map_nil]); first | done | rfl | (simp only [List.length_drop, List.length_take]; rfl)) ?_; (with_reducible refine (plaitinglaw4_within.calls a0 7 t10102 _ A6.out).mono ?_); rintro e w' ⟨rfl, ⟨nd, rfl⟩⟩; refine ⟨_, rfl, ?_⟩) | ((with_reducible refine gate_callee (f := 19) rfl ?_); refine goesL_ (some 26) rfl rfl Try.func19 (by kernel_rfl) rfl #[.int .i64 a1, .int .i64 (wrap64 (6 + t10102))] rfl (by (try simp only [List.map_toArray, List.map_cons, List.map_nil]); first | done | rfl | (simp only [List.length_drop, List.length_take]; rfl)) ?_; (with_reducible refine (plaitinglaw4_within.calls a1 (wrap64 (6 + t10102)) t10103 _ A7.out).mono ?_); rintro e w' ⟨rfl, ⟨nd, rfl⟩⟩; refine ⟨_, rfl, ?_⟩) | ((with_reducible refine gate_callee (f := 19) rfl ?_); refine goesL_ (some 30) rfl rfl Try.func19 (by kernel_rfl) rfl #[.int .i64 a2, .int .i64 (wrap64 (2 * (wrap64 (6 + t10102))))] rfl (by (try simp only [List.map_toArray, List.map_cons, List.map_nil]); first | done | rfl | (simp only [List.length_drop, List.length_take]; rfl)) ?_; (with_reducible refine (plaitinglaw4_within.calls a2 (wrap64 (2 * (wrap64 (6 + t10102)))) t10104 _ A8.out).mono ?_); rintro e w' ⟨rfl, ⟨nd, rfl⟩⟩; refine ⟨_, rfl, ?_⟩) | ((with_reducible refine gate_callee (f := 22) rfl ?_); refine goesL_ (some 34) rfl rfl Try.func22 (by kernel_rfl) rfl #[.int .i64 (wrap64 (6 + t10102)), .int .i64 t10104] rfl (by (try simp only [List.map_toArray, List.map_cons, List.map_nil]); first | done | rfl | (simp only [List.length_drop, List.length_take]; rfl)) ?_; (with_reducible refine (ring_Ends.calls (wrap64 (6 + t10102)) t10104 t10105 t10106 _ A9.out).mono ?_); rintro e w' ⟨rfl, ⟨nd, rfl⟩⟩; refine ⟨_, rfl, ?_⟩) | ((with_reducible refine gate_callee (f := 23) rfl ?_); refine goesL_ (some 41) rfl rfl Try.func23 (by kernel_rfl) rfl #[.int .i64 (wrap64 (6 + t10102)), .int .i64 t10105, .int .i64 t10106] rfl (by (try simp only [List.map_toArray, List.map_cons, List.map_nil]); first | done | rfl | (simp only [List.length_drop, List.length_take]; rfl)) ?_; (with_reducible refine (ring_Link.calls (wrap64 (6 + t10102)) t10105 t10106 t10107 t10108 _ A10.out).mono ?_); rintro e w13 ⟨rfl, hb⟩; refine ⟨_, rfl, ?_⟩; have n0_ := Aside0.mk (below_step (by repeat (first | (with_reducible first | exact HB.out | apply below_alloc | apply pw_below_drewN | apply below_drew1) | exact HB.out)) hb); clear HB; have HB := n0_; clear n0_; (try clear hb); (try clear hb2); (try clear hk); (try clear hi)) | ((with_reducible refine gate_callee (f := 23) rfl ?_); refine goesL_ (some 48) rfl rfl Try.func23 (by kernel_rfl) rfl #[.int .i64 (wrap64 (6 + t10102)), .int .i64 t10106, .int .i64 t10105] rfl (by (try simp only [List.map_toArray, List.map_cons, List.map_nil]); first | done | rfl | (simp only [List.length_drop, List.length_take]; rfl)) ?_; (with_reducible refine (ring_Link.calls (wrap64 (6 + t10102)) t10106 t10105 t10109 t10110 _ A11.out).mono ?_); rintro e w14 ⟨rfl, hb⟩; refine ⟨_, rfl, ?_⟩; have n0_ := Aside0.mk (below_step (by repeat (first | (with_reducible first | exact HB.out | apply below_alloc | apply pw_below_drewN | apply below_drew1) | exact HB.out)) hb); clear HB; have HB := n0_; clear n0_; (try clear hb); (try clear hb2); (try clear hk); (try clear hi)))
    (try simp only [Act.put, List.setIfInBounds_toArray, List.set_cons_zero, List.set_cons_succ])
    go_cut [66] (fun v66 wc => ∃ (kq : Nat) (x66_11 : Bool), v66 = .bool x66_11 ∧ Aside0 (plaitinglaw4_RingLinks.j0 kq (wrap64 (6 + t10102)) t10103 x66_11 = some r) ∧ Aside0 (kq ≤ k) ∧ Aside0 (Below w.heap.size w wc))
    case first =>
      have H := HC12.out
      clear HC12
      by_cases c15 : t10108 = true
      · subst c15
        have H1 : (if t10110 = true then (if t10107 = t10104 then (plaitinglaw4_RingLinks.j0 k (wrap64 (6 + t10102)) t10103 (t10109 != t10104)) else (plaitinglaw4_RingLinks.j0 k (wrap64 (6 + t10102)) t10103 true)) else (plaitinglaw4_RingLinks.j0 k (wrap64 (6 + t10102)) t10103 true)) = some r := by rw [if_pos rfl] at H; exact H
        clear H
        have H := H1
        clear H1
        by_cases c16 : t10110 = true
        · subst c16
          have H1 : (if t10107 = t10104 then (plaitinglaw4_RingLinks.j0 k (wrap64 (6 + t10102)) t10103 (t10109 != t10104)) else (plaitinglaw4_RingLinks.j0 k (wrap64 (6 + t10102)) t10103 true)) = some r := by rw [if_pos rfl] at H; exact H
          clear H
          have H := H1
          clear H1
          by_cases c17 : t10107 = t10104
          · rw [if_pos c17] at H
            have c17b0 : (t10107 == t10104) = true := beq_iff_eq.mpr c17
            have c17b1 : (t10107 != t10104) = false := bne_eq_false_iff_eq.mpr c17
            clear c17
            (first | rw [c17b0] | (simp only [i64_w, i32_w]; rw [c17b0]) | skip)
            have H' := Aside0.mk H
            clear H
            go_wp2
            go_meet
            case rel => exact ⟨_, ((t10109 != t10104)), (by first | rfl | (simp; done) | (simp [*]; done)), H', ⟨by first | omega | exact Nat.le_refl _⟩, ⟨by repeat (first | (with_reducible first | exact HB.out | apply below_alloc | apply pw_below_drewN | apply below_drew1) | exact HB.out)⟩⟩
          · rw [if_neg c17] at H
            have c17b0 : (t10107 == t10104) = false := beq_eq_false_iff_ne.mpr c17
            have c17b1 : (t10107 != t10104) = true := bne_iff_ne.mpr c17
            (first | rw [c17b0] | (simp only [i64_w, i32_w]; rw [c17b0]) | skip)
            have H' := Aside0.mk H
            clear H
            go_wp2
            go_meet
            case rel => exact ⟨_, (true), (by first | rfl | (simp; done) | (simp [*]; done)), H', ⟨by first | omega | exact Nat.le_refl _⟩, ⟨by repeat (first | (with_reducible first | exact HB.out | apply below_alloc | apply pw_below_drewN | apply below_drew1) | exact HB.out)⟩⟩
        · replace c16 := Bool.eq_false_iff.mpr c16
          subst c16
          have H1 : (plaitinglaw4_RingLinks.j0 k (wrap64 (6 + t10102)) t10103 true) = some r := by rw [if_neg (show ¬ (false = true) by decide)] at H; exact H
          clear H
          have H := H1
          clear H1
          have H' := Aside0.mk H
          clear H
          go_wp2
          go_meet
          case rel => exact ⟨_, (true), (by first | rfl | (simp; done) | (simp [*]; done)), H', ⟨by first | omega | exact Nat.le_refl _⟩, ⟨by repeat (first | (with_reducible first | exact HB.out | apply below_alloc | apply pw_below_drewN | apply below_drew1) | exact HB.out)⟩⟩
      · replace c15 := Bool.eq_false_iff.mpr c15
        subst c15
        have H1 : (plaitinglaw4_RingLinks.j0 k (wrap64 (6 + t10102)) t10103 true) = some r := by rw [if_neg (show ¬ (false = true) by decide)] at H; exact H
        clear H
        have H := H1
        clear H1
        have H' := Aside0.mk H
        clear H
        go_wp2
        go_meet
        case rel => exact ⟨_, (true), (by first | rfl | (simp; done) | (simp [*]; done)), H', ⟨by first | omega | exact Nat.le_refl _⟩, ⟨by repeat (first | (with_reducible first | exact HB.out | apply below_alloc | apply pw_below_drewN | apply below_drew1) | exact HB.out)⟩⟩
    case rest =>
      clear HC12
      try clear c1
      try clear c2
      try clear p2
      try clear c5
      try clear p6
      try clear c15
      try clear c16
      try clear c17
      try clear c17b0
      try clear c17b1
      obtain ⟨kq, x66_11, rfl, HA, HJ11, HB⟩ := hcut
      cases kq with
      | zero => exact absurd HA.out (by simp [plaitinglaw4_RingLinks.j0])
      | succ kj11 =>
        have H := HA.out
        clear HA
        simp only [plaitinglaw4_RingLinks.j0] at H
        by_cases c18 : x66_11 = true
        · subst c18
          have H1 : (some false) = some r := by rw [if_pos rfl] at H; exact H
          clear H
          have H := H1
          clear H1
          exact absurd ((Option.some.inj H).trans HRT.out) (by decide)
        · replace c18 := Bool.eq_false_iff.mpr c18
          subst c18
          have H1 : (plaitinglaw4_RingLinks.l0 kj11 (wrap64 (6 + t10102)) t10103 0) = some r := by rw [if_neg (show ¬ (false = true) by decide)] at H; exact H
          clear H
          have H := H1
          clear H1
          have H' := Aside0.mk H
          clear H
          go_wp2
          go_loopg [15] kj11 (fun kq v15 w' => ∃ (x15_2 : Int), v15 = .int .i64 x15_2 ∧ Aside0 (plaitinglaw4_RingLinks.l0 kq (wrap64 (6 + t10102)) t10103 x15_2 = some r) ∧ Aside0 (kq ≤ kj11) ∧ Aside0 (Below w.heap.size w w'))
          case atStart => exact ⟨(0), (by first | rfl | (simp; done) | (simp [*]; done)), H', ⟨Nat.le_refl _⟩, ⟨by repeat (first | (with_reducible first | exact HB.out | apply below_alloc | apply pw_below_drewN | apply below_drew1) | exact HB.out)⟩⟩
          case round =>
            clear H'
            try clear c1
            try clear c2
            try clear p2
            try clear c5
            try clear p6
            try clear c15
            try clear c16
            try clear c17
            try clear c17b0
            try clear c17b1
            try clear c18
            try clear p2
            try clear p6
            obtain ⟨x15_2, rfl, HA, HK2, HB⟩ := hrel
            cases gk with
            | zero => exact absurd HA.out (by simp [plaitinglaw4_RingLinks.l0])
            | succ k2 =>
              have H := HA.out
              clear HA
              simp only [plaitinglaw4_RingLinks.l0] at H
              by_cases c19 : x15_2 < (wrap64 (6 + t10102))
              · rw [if_pos c19] at H
                have c19b0 : decide (x15_2 < (wrap64 (6 + t10102))) = true := decide_eq_true c19
                clear c19
                replace H := Option.bind_eq_some_iff.mp H
                obtain ⟨⟨t10111, t10112⟩, A200, H⟩ := H
                replace H : ((plaitingref4_Dist.f (wrap64 (6 + t10102)) t10103 x15_2 1).bind fun t10113 => ((plaitingref4_Dist.f (wrap64 (6 + t10102)) t10103 x15_2 (-1)).bind fun t10114 => (if (mn t10113 t10114) = 1 then (if (t10112 != true) = true then (some false) else (plaitinglaw4_RingLinks.l0 k2 (wrap64 (6 + t10102)) t10103 (wrap64 (x15_2 + 1)))) else (if (t10112 != ((mn t10113 t10114) == 2)) = true then (some false) else (plaitinglaw4_RingLinks.l0 k2 (wrap64 (6 + t10102)) t10103 (wrap64 (x15_2 + 1))))))) = some r := H
                have A20 := Aside0.mk A200
                clear A200
                replace H := Option.bind_eq_some_iff.mp H
                obtain ⟨t10113, A210, H⟩ := H
                replace H : ((plaitingref4_Dist.f (wrap64 (6 + t10102)) t10103 x15_2 (-1)).bind fun t10114 => (if (mn t10113 t10114) = 1 then (if (t10112 != true) = true then (some false) else (plaitinglaw4_RingLinks.l0 k2 (wrap64 (6 + t10102)) t10103 (wrap64 (x15_2 + 1)))) else (if (t10112 != ((mn t10113 t10114) == 2)) = true then (some false) else (plaitinglaw4_RingLinks.l0 k2 (wrap64 (6 + t10102)) t10103 (wrap64 (x15_2 + 1)))))) = some r := H
                have A21 := Aside0.mk A210
                clear A210
                replace H := Option.bind_eq_some_iff.mp H
                obtain ⟨t10114, A220, H⟩ := H
                replace H : (if (mn t10113 t10114) = 1 then (if (t10112 != true) = true then (some false) else (plaitinglaw4_RingLinks.l0 k2 (wrap64 (6 + t10102)) t10103 (wrap64 (x15_2 + 1)))) else (if (t10112 != ((mn t10113 t10114) == 2)) = true then (some false) else (plaitinglaw4_RingLinks.l0 k2 (wrap64 (6 + t10102)) t10103 (wrap64 (x15_2 + 1))))) = some r := H
                have A22 := Aside0.mk A220
                clear A220
                obtain ⟨ji23, hji23⟩ : ∃ j_ : Int, (mn t10113 t10114) = j_ := ⟨_, rfl⟩
                replace H : (if (ji23) = 1 then (if (t10112 != true) = true then (some false) else (plaitinglaw4_RingLinks.l0 k2 (wrap64 (6 + t10102)) t10103 (wrap64 (x15_2 + 1)))) else (if (t10112 != ((ji23) == 2)) = true then (some false) else (plaitinglaw4_RingLinks.l0 k2 (wrap64 (6 + t10102)) t10103 (wrap64 (x15_2 + 1))))) = some r := by first | (rw [hji23] at H; exact H) | (simp only [hji23] at H ⊢; exact H)
                (try rw [hji23] at A20)
                (try rw [hji23] at A21)
                (try rw [hji23] at A22)
                have hji23_ : (if t10114 < t10113 then t10114 else t10113) = ji23 := hji23
                by_cases c24 : (ji23) = 1
                · rw [if_pos c24] at H
                  have c24b0 : ((ji23) == 1) = true := beq_iff_eq.mpr c24
                  have c24b1 : ((ji23) != 1) = false := bne_eq_false_iff_eq.mpr c24
                  clear c24
                  by_cases c25 : (t10112 != true) = true
                  · rw [if_pos c25] at H
                    have c25b0 : (t10112 != true) = true := c25
                    (try (have c25b1 : decide (t10112 = true) = false := by simpa using c25))
                    (try (have c25b2 : (t10112 == true) = false := by simpa using c25))
                    (try (have c25b3 : ¬ (t10112 = true) := by simpa using c25))
                    clear c25
                    exact absurd ((Option.some.inj H).trans HRT.out) (by decide)
                  · rw [if_neg c25] at H
                    have c25b0 : (t10112 != true) = false := by simpa using c25
                    (try (have c25b1 : decide (t10112 = true) = true := by simpa using c25))
                    (try (have c25b2 : (t10112 == true) = true := by simpa using c25))
                    clear c25
                    have H' := Aside0.mk H
                    clear H
                    go_wp2_with (first | ((with_reducible refine gate_callee (f := 23) rfl ?_); refine goesL_ (some 76) rfl rfl Try.func23 (by kernel_rfl) rfl #[.int .i64 (wrap64 (6 + t10102)), .int .i64 t10103, .int .i64 x15_2] rfl (by (try simp only [List.map_toArray, List.map_cons, List.map_nil]); first | done | rfl | (simp only [List.length_drop, List.length_take]; rfl)) ?_; (with_reducible refine (ring_Link.calls (wrap64 (6 + t10102)) t10103 x15_2 t10111 t10112 _ A20.out).mono ?_); rintro e w26 ⟨rfl, hb⟩; refine ⟨_, rfl, ?_⟩; have n0_ := Aside0.mk (below_step (by repeat (first | (with_reducible first | exact HB.out | apply below_alloc | apply pw_below_drewN | apply below_drew1) | exact HB.out)) hb); clear HB; have HB := n0_; clear n0_; (try clear hb); (try clear hb2); (try clear hk); (try clear hi)) | ((with_reducible refine gate_callee (f := 24) rfl ?_); refine goesL_ (some 82) rfl rfl Try.func24 (by kernel_rfl) rfl #[.int .i64 (wrap64 (6 + t10102)), .int .i64 t10103, .int .i64 x15_2, .int .i64 1] rfl (by (try simp only [List.map_toArray, List.map_cons, List.map_nil]); first | done | rfl | (simp only [List.length_drop, List.length_take]; rfl)) ?_; (with_reducible refine (plaitingref4_Dist.calls (wrap64 (6 + t10102)) t10103 x15_2 1 t10113 _ A21.out).mono ?_); rintro e w' ⟨rfl, ⟨nd, rfl⟩⟩; refine ⟨_, rfl, ?_⟩) | ((with_reducible refine gate_callee (f := 24) rfl ?_); refine goesL_ (some 86) rfl rfl Try.func24 (by kernel_rfl) rfl #[.int .i64 (wrap64 (6 + t10102)), .int .i64 t10103, .int .i64 x15_2, .int .i64 (-1)] rfl (by (try simp only [List.map_toArray, List.map_cons, List.map_nil]); first | done | rfl | (simp only [List.length_drop, List.length_take]; rfl)) ?_; (with_reducible refine (plaitingref4_Dist.calls (wrap64 (6 + t10102)) t10103 x15_2 (-1) t10114 _ A22.out).mono ?_); rintro e w' ⟨rfl, ⟨nd, rfl⟩⟩; refine ⟨_, rfl, ?_⟩))
                    go_roundg k2
                    case measure => have := HJ11.out; have := HK2.out; omega
                    case rel => exact ⟨(wrap64 (x15_2 + 1)), (by first | rfl | (simp; done) | (simp [*]; done)), H', ⟨by have := HJ11.out; have := HK2.out; omega⟩, ⟨by repeat (first | (with_reducible first | exact HB.out | apply below_alloc | apply pw_below_drewN | apply below_drew1) | exact HB.out)⟩⟩
                · rw [if_neg c24] at H
                  have c24b0 : ((ji23) == 1) = false := beq_eq_false_iff_ne.mpr c24
                  have c24b1 : ((ji23) != 1) = true := bne_iff_ne.mpr c24
                  by_cases c27 : (t10112 != ((ji23) == 2)) = true
                  · rw [if_pos c27] at H
                    have c27b0 : (t10112 != ((ji23) == 2)) = true := c27
                    (try (have c27b1 : decide (t10112 = ((ji23) == 2)) = false := by simpa using c27))
                    (try (have c27b2 : (t10112 == ((ji23) == 2)) = false := by simpa using c27))
                    (try (have c27b3 : ¬ (t10112 = ((ji23) == 2)) := by simpa using c27))
                    clear c27
                    exact absurd ((Option.some.inj H).trans HRT.out) (by decide)
                  · rw [if_neg c27] at H
                    have c27b0 : (t10112 != ((ji23) == 2)) = false := by simpa using c27
                    (try (have c27b1 : decide (t10112 = ((ji23) == 2)) = true := by simpa using c27))
                    (try (have c27b2 : (t10112 == ((ji23) == 2)) = true := by simpa using c27))
                    clear c27
                    have H' := Aside0.mk H
                    clear H
                    go_wp2_with (first | ((with_reducible refine gate_callee (f := 23) rfl ?_); refine goesL_ (some 76) rfl rfl Try.func23 (by kernel_rfl) rfl #[.int .i64 (wrap64 (6 + t10102)), .int .i64 t10103, .int .i64 x15_2] rfl (by (try simp only [List.map_toArray, List.map_cons, List.map_nil]); first | done | rfl | (simp only [List.length_drop, List.length_take]; rfl)) ?_; (with_reducible refine (ring_Link.calls (wrap64 (6 + t10102)) t10103 x15_2 t10111 t10112 _ A20.out).mono ?_); rintro e w28 ⟨rfl, hb⟩; refine ⟨_, rfl, ?_⟩; have n0_ := Aside0.mk (below_step (by repeat (first | (with_reducible first | exact HB.out | apply below_alloc | apply pw_below_drewN | apply below_drew1) | exact HB.out)) hb); clear HB; have HB := n0_; clear n0_; (try clear hb); (try clear hb2); (try clear hk); (try clear hi)) | ((with_reducible refine gate_callee (f := 24) rfl ?_); refine goesL_ (some 82) rfl rfl Try.func24 (by kernel_rfl) rfl #[.int .i64 (wrap64 (6 + t10102)), .int .i64 t10103, .int .i64 x15_2, .int .i64 1] rfl (by (try simp only [List.map_toArray, List.map_cons, List.map_nil]); first | done | rfl | (simp only [List.length_drop, List.length_take]; rfl)) ?_; (with_reducible refine (plaitingref4_Dist.calls (wrap64 (6 + t10102)) t10103 x15_2 1 t10113 _ A21.out).mono ?_); rintro e w' ⟨rfl, ⟨nd, rfl⟩⟩; refine ⟨_, rfl, ?_⟩) | ((with_reducible refine gate_callee (f := 24) rfl ?_); refine goesL_ (some 86) rfl rfl Try.func24 (by kernel_rfl) rfl #[.int .i64 (wrap64 (6 + t10102)), .int .i64 t10103, .int .i64 x15_2, .int .i64 (-1)] rfl (by (try simp only [List.map_toArray, List.map_cons, List.map_nil]); first | done | rfl | (simp only [List.length_drop, List.length_take]; rfl)) ?_; (with_reducible refine (plaitingref4_Dist.calls (wrap64 (6 + t10102)) t10103 x15_2 (-1) t10114 _ A22.out).mono ?_); rintro e w' ⟨rfl, ⟨nd, rfl⟩⟩; refine ⟨_, rfl, ?_⟩))
                    go_roundg k2
                    case measure => have := HJ11.out; have := HK2.out; omega
                    case rel => exact ⟨(wrap64 (x15_2 + 1)), (by first | rfl | (simp; done) | (simp [*]; done)), H', ⟨by have := HJ11.out; have := HK2.out; omega⟩, ⟨by repeat (first | (with_reducible first | exact HB.out | apply below_alloc | apply pw_below_drewN | apply below_drew1) | exact HB.out)⟩⟩
              · rw [if_neg c19] at H
                have c19b0 : decide (x15_2 < (wrap64 (6 + t10102))) = false := decide_eq_false c19
                clear c19
                obtain rfl := Option.some.inj H
                go_wp2
                go_ret
                exact ⟨by first | rfl | (simp [errW_none, errW_some] <;> rfl) | (simp [*, errW_none, errW_some] <;> rfl), by repeat (first | (with_reducible first | exact HB.out | apply below_alloc | apply pw_below_drewN | apply below_drew1) | exact HB.out)⟩
  · replace c5 := Bool.eq_false_iff.mpr c5
    subst c5
    have H1 : (some false) = some r := by rw [if_neg (show ¬ (false = true) by decide)] at H; exact H
    clear H
    have H := H1
    clear H1
    exact absurd ((Option.some.inj H).trans HRT.out) (by decide)

/-- THE ONE PURE STATEMENT of plaitinglaw4_RingLinks: yours. -/
def plaitinglaw4_RingLinks.Pure : Prop := ∀ (a0 : Int) (a1 : Int) (a2 : Int), (Lit.int .i64 a0).wf = true → (Lit.int .i64 a1).wf = true → (Lit.int .i64 a2).wf = true → ∃ k, plaitinglaw4_RingLinks.f k a0 a1 a2 = some true
theorem plaitinglaw4_RingLinks.walk (P : plaitinglaw4_RingLinks.Pure) (a0 : Int) (a1 : Int) (a2 : Int) (w : World) (w0 : (Lit.int .i64 a0).wf = true) (w1 : (Lit.int .i64 a1).wf = true) (w2 : (Lit.int .i64 a2).wf = true) :
    Calls Try.prog 5 #[.int .i64 a0, .int .i64 a1, .int .i64 a2] w fun e w' => e = .returned (.bool true) ∧ Below w.heap.size w w' := by
  obtain ⟨k, h⟩ := P a0 a1 a2 w0 w1 w2
  refine (plaitinglaw4_RingLinks.calls k a0 a1 a2 true w rfl h).mono ?_
  rintro e w' ⟨rfl, hd⟩
  exact ⟨rfl, hd⟩

end Go.Proofs.Ytdkbalaphblobaa.P
