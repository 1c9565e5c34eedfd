/- Printed by a program of this session (myprint) out of the translation: the functions as plain Lean functions, and that the calls compute them. What counts is Lean's check. -/
import Derived.Test.YtcfbmofffipmpaaQLaneStepsPx0
import Derived.Test.YtcfbmofffipmpaaQLaneStepsShort
namespace Go.Proofs.Ytcfbmofffipmpaa.P
open Go.RowKit Go.Proofs.YtcfbmofffipmpaaW.PrintWords Go.Proofs.YtcfbmofffipmpaaW.PrintLast Go.Proofs.YtcfbmofffipmpaaW.PrintMore
attribute [local go_sem] max2_int min2_int max_two min_two max_three min_three max_four min_four
set_option linter.unusedVariables false
set_option linter.unusedSimpArgs false
attribute [-simp] ByteArray.size_extract ByteArray.size_append ByteArray.extract_append_extract
attribute [-go_sem] ByteArray.size_append'
def IsS40 (w0 W : World) (g : Nat) (f0 : Bool) (f1 : Bool) : Prop := W.heap[g]? = some (.cells #[.bool f0, .bool f1] 40 (0, 0)) ∧ w0.heap.size ≤ g
theorem IsS40.grown {w0 W : World} {g : Nat} {f0 : Bool} {f1 : Bool} {W1 : World} {row : Option Nat} (h : IsS40 w0 W g f0 f1) (hw : W.grownBy W1 row) (hne : some g ≠ row) : IsS40 w0 W1 g f0 f1 := by
 obtain ⟨hb, hg⟩ := h
 exact ⟨blk_grown hb hw hne, hg⟩
theorem IsS40.kept {w0 W : World} {g : Nat} {f0 : Bool} {f1 : Bool} {W1 : World} {S : Nat → Prop} (h : IsS40 w0 W g f0 f1) (hk : Kept W W1 S) (hne : ¬ S g) : IsS40 w0 W1 g f0 f1 := by
 obtain ⟨hb, hg⟩ := h
 exact ⟨blk_kept hb hk hne, hg⟩
theorem IsS40.below {w0 W : World} {g : Nat} {f0 : Bool} {f1 : Bool} {W1 : World} (h : IsS40 w0 W g f0 f1) (hw : Below W.heap.size W W1) : IsS40 w0 W1 g f0 f1 := h.grown (grown_of_below hw none) (by simp)
theorem IsS40.alloc {w0 W : World} {g : Nat} {f0 : Bool} {f1 : Bool} (h : IsS40 w0 W g f0 f1) (o : Obj) : IsS40 w0 (W.alloc o) g f0 f1 := h.below (below_alloc (Below.refl _ _) o)
theorem IsS40.drewN {w0 W : World} {g : Nat} {f0 : Bool} {f1 : Bool} (h : IsS40 w0 W g f0 f1) (m : Nat) : IsS40 w0 (W.drewN m) g f0 f1 := h
theorem IsS40.drew {w0 W : World} {g : Nat} {f0 : Bool} {f1 : Bool} (h : IsS40 w0 W g f0 f1) : IsS40 w0 W.drew g f0 f1 := h
theorem IsS40.at_ {w0 W : World} {g : Nat} {f0 : Bool} {f1 : Bool} {w' : World} {m : Nat} (hq : W.drewN m = w') (h : IsS40 w0 W g f0 f1) : IsS40 w0 w' g f0 f1 := by subst hq; exact IsS40.drewN h m
theorem IsS40.apart {w0 W : World} {g : Nat} {f0 : Bool} {f1 : Bool} {α : Type} {d : Kd α} {e : Nat} {base : Nat} {ok : Nat → Prop} {v : Value} {xs : List α} (h : IsS40 w0 W g f0 f1) (ho : d.R e W base ok v xs) (ht : ∀ q, q ∈ e :: d.E → q ≠ 40) : d.R e W base (fun k => ok k ∧ k ≠ g) v xs := by
 obtain ⟨hb, hg⟩ := h
 exact Kd.R_types ho hb ht
theorem IsS40.own_ne {w0 W : World} {g : Nat} {f0 : Bool} {f1 : Bool} {α : Type} {d : Kd α} {e : Nat} {base : Nat} {ok : Nat → Prop} {v : Value} {xs : List α} (h : IsS40 w0 W g f0 f1) (ho : d.R e W base ok v xs) (ht : e ≠ 40) : some g ≠ v.ownBlock := by
 obtain ⟨hb, hg⟩ := h
 exact Kd.R_ne ho hb ht
theorem IsS40.lt {w0 W : World} {g : Nat} {f0 : Bool} {f1 : Bool} (h : IsS40 w0 W g f0 f1) : g < W.heap.size := by
 obtain ⟨hb, hg⟩ := h
 exact blk_lt hb
theorem IsS40.ge {w0 W : World} {g : Nat} {f0 : Bool} {f1 : Bool} (h : IsS40 w0 W g f0 f1) : w0.heap.size ≤ g := by
 obtain ⟨hb, hg⟩ := h
 exact hg
theorem IsS40.ne_blk {w0 W : World} {g : Nat} {f0 : Bool} {f1 : Bool} {a : Nat} {cs : Array Value} {t : TypeId} {fr : Nat × Nat} (h : IsS40 w0 W g f0 f1) (hb2 : W.heap[a]? = some (.cells cs t fr)) (ht : t ≠ 40) : g ≠ a := by
 obtain ⟨hb, hg⟩ := h
 rintro rfl
 rw [hb] at hb2
 injection hb2 with hb2
 injection hb2 with _ ht2
 exact ht ht2.symm
theorem cellS40_0 {W : World} {g : Nat} {f0 : Bool} {f1 : Bool} (h : W.heap[g]? = some (.cells #[.bool f0, .bool f1] 40 (0, 0))) : W.cell? ⟨g, 0, none⟩ = some (.bool f0) := (blk_cell h 0).trans rfl
theorem IsS40.set_0 {w0 W : World} {g : Nat} {f0 : Bool} {f1 : Bool} (h : IsS40 w0 W g f0 f1) (x : Bool) : IsS40 w0 (W.setCell ⟨g, 0, none⟩ (.bool x)) g x f1 := by
 obtain ⟨hb, hg⟩ := h
 exact ⟨by simpa using blk_set hb 0 (.bool x), hg⟩
theorem cellS40_1 {W : World} {g : Nat} {f0 : Bool} {f1 : Bool} (h : W.heap[g]? = some (.cells #[.bool f0, .bool f1] 40 (0, 0))) : W.cell? ⟨g, 1, none⟩ = some (.bool f1) := (blk_cell h 1).trans rfl
theorem IsS40.set_1 {w0 W : World} {g : Nat} {f0 : Bool} {f1 : Bool} (h : IsS40 w0 W g f0 f1) (x : Bool) : IsS40 w0 (W.setCell ⟨g, 1, none⟩ (.bool x)) g f0 x := by
 obtain ⟨hb, hg⟩ := h
 exact ⟨by simpa using blk_set hb 1 (.bool x), hg⟩
def plaitingref7_New.f (a0 : Bool) : Option (Bool × Bool) := some (a0, false)
set_option maxHeartbeats 8000000 in
set_option maxRecDepth 100000 in
theorem plaitingref7_New.calls (a0 : Bool) (r1 : Bool) (r2 : Bool) (w0 w : World) (hB : Below w0.heap.size w0 w) (h : plaitingref7_New.f a0 = some (r1, r2)) :
  Calls Try.prog 8 #[.bool a0] w fun e w' => ∃ g_ : Nat, e = .returned (.pointer (some ⟨g_, 0, none⟩)) ∧ IsS40 w0 w' g_ r1 r2 ∧ Below w0.heap.size w0 w' ∧ Below w.heap.size w w' := by
 have hu40 := Try.underlying40
 have HBW := Aside0.mk (Below.refl w.heap.size w)
 have HW0 := Aside0.mk hB.size
 have HB := Aside0.mk hB
 clear hB
 have H : (some (a0, false)) = some (r1, r2) := h
 clear h
 simp only [Option.some.injEq, Prod.mk.injEq] at H
 obtain ⟨rfl, rfl⟩ := H
 go_enter Try.func8, Try.ntmps8
 go_wp2_with (first | ((with_reducible refine gate_dst (N := 5) rfl ?_); refine be_ 5 #[.bool a0, .bool false] 40 ?_; intro gbAa hg w2 hbox hb; have n0_ := Aside0.mk (below_step HBW.out hb); have n1_ := bs_ HB hb; have n2_ := Aside0.mk (hbox); have n3_ := Aside0.mk ((by rw [hg]; exact (below_size (by repeat (first | (with_reducible first | exact HBW.out | apply below_alloc | apply pw_below_drewN | apply below_drew1) | exact HBW.out))) : w.heap.size ≤ gbAa)); have n4_ := Aside0.mk ((Nat.le_trans HW0.out (by rw [hg]; exact (below_size (by repeat (first | (with_reducible first | exact HBW.out | apply below_alloc | apply pw_below_drewN | apply below_drew1) | exact HBW.out))) : w.heap.size ≤ gbAa) : w0.heap.size ≤ gbAa)); clear HBW; clear HB; have HBW := n0_; have HB := n1_; have BKAa := n2_; have GWAa := n3_; have GEAa := n4_; clear n0_ n1_ n2_ n3_ n4_; clear hb hbox hg))
 go_ret
 exact ⟨_, rfl, (show IsS40 w0 _ gbAa a0 false from ⟨by (with_reducible repeat (first | refine blk_drewN ?_ _ | refine blk_drew ?_ | refine blk_alloc ?_ _)); exact BKAa.out, GEAa.out⟩), pH_ HB.out, by repeat (first | (with_reducible first | exact HBW.out | apply below_alloc | apply pw_below_drewN | apply below_drew1 | refine below_set ?_ GWAa.out) | exact HBW.out)⟩
def plaitingref7_Lane_Step.f (s0_0 : Bool) (s0_1 : Bool) (a1 : Int) (a2 : Int) : Option (Int × Bool × Bool) := if s0_1 = true then (some (46, s0_0, true)) else (if a1 = 48 then (if s0_0 = true then (if a1 = a2 then (some (a1, s0_0, (a1 == 35))) else (some (46, s0_0, true))) else (some (a1, s0_0, (a1 == 35)))) else (if a1 = 49 then (if s0_0 = true then (if a1 = a2 then (some (a1, s0_0, (a1 == 35))) else (some (46, s0_0, true))) else (some (a1, s0_0, (a1 == 35)))) else (if a1 = 35 then (if s0_0 = true then (if a1 = a2 then (some (a1, s0_0, (a1 == 35))) else (some (46, s0_0, true))) else (some (a1, s0_0, (a1 == 35)))) else (some (46, s0_0, true)))))
set_option maxHeartbeats 8000000 in
set_option maxRecDepth 100000 in
theorem plaitingref7_Lane_Step.calls (g : Nat) (s0_0 : Bool) (s0_1 : Bool) (a1 : Int) (a2 : Int) (r1 : Int) (r2 : Bool) (r3 : Bool) (w0 w : World) (hI : IsS40 w0 w g s0_0 s0_1) (hB : Below w0.heap.size w0 w) (h : plaitingref7_Lane_Step.f s0_0 s0_1 a1 a2 = some (r1, r2, r3)) :
  Calls Try.prog 10 #[.pointer (some ⟨g, 0, none⟩), .int .u8 a1, .int .u8 a2] w fun e w' => e = .returned (.int .u8 r1) ∧ IsS40 w0 w' g r2 r3 ∧ Below w0.heap.size w0 w' ∧ KeepBut w w' g none := by
 have HI0 := Aside0.mk hI
 have HK := Aside0.mk (KeepBut.refl w g none)
 have HL := Aside0.mk hB.size
 clear hI
 have HW0 := Aside0.mk hB.size
 have HB := Aside0.mk hB
 clear hB
 have H : (if s0_1 = true then (some (46, s0_0, true)) else (if a1 = 48 then (if s0_0 = true then (if a1 = a2 then (some (a1, s0_0, (a1 == 35))) else (some (46, s0_0, true))) else (some (a1, s0_0, (a1 == 35)))) else (if a1 = 49 then (if s0_0 = true then (if a1 = a2 then (some (a1, s0_0, (a1 == 35))) else (some (46, s0_0, true))) else (some (a1, s0_0, (a1 == 35)))) else (if a1 = 35 then (if s0_0 = true then (if a1 = a2 then (some (a1, s0_0, (a1 == 35))) else (some (46, s0_0, true))) else (some (a1, s0_0, (a1 == 35)))) else (some (46, s0_0, true)))))) = some (r1, r2, r3) := h
 clear h
 by_cases c4 : s0_1 = true
 ·
  subst c4
  have H1 : (some (46, s0_0, true)) = some (r1, r2, r3) := by rw [if_pos rfl] at H; exact H
  clear H
  have H := H1
  clear H1
  simp only [Option.some.injEq, Prod.mk.injEq] at H
  obtain ⟨rfl, rfl, rfl⟩ := H
  obtain ⟨HGz5, hgz5⟩ := HI0.out
  have hcz5_0 := cellS40_0 HGz5
  have hcz5_1 := cellS40_1 HGz5
  have hfz5_0 := blk_frozen HGz5 0
  have hfz5_1 := blk_frozen HGz5 1
  clear HGz5 hgz5
  go_enter Try.func10, Try.ntmps10
  go_wp2
  go_ret
  try rw [c18b0]
  exact ⟨by first | rfl | (simp [errW_none, errW_some] <;> rfl) | (simp [*, errW_none, errW_some] <;> rfl), by repeat (first | (with_reducible first | exact HI0.out | apply IsS40.alloc | apply IsS40.drewN | apply IsS40.drew | apply IsS40.set_0 | apply IsS40.set_1) | exact HI0.out), by repeat (first | (with_reducible first | exact HB.out | apply below_alloc | apply pw_below_drewN | apply below_drew1 | refine below_set ?_ (IsS40.ge HI0.out)) | exact HB.out), by repeat (first | (with_reducible first | exact HK.out | apply KeepBut.set_ | apply keep_drewN | apply keep_drew | apply keep_alloc) | exact HK.out)⟩
 ·
  replace c4 := Bool.eq_false_iff.mpr c4
  subst c4
  have H1 : (if a1 = 48 then (if s0_0 = true then (if a1 = a2 then (some (a1, s0_0, (a1 == 35))) else (some (46, s0_0, true))) else (some (a1, s0_0, (a1 == 35)))) else (if a1 = 49 then (if s0_0 = true then (if a1 = a2 then (some (a1, s0_0, (a1 == 35))) else (some (46, s0_0, true))) else (some (a1, s0_0, (a1 == 35)))) else (if a1 = 35 then (if s0_0 = true then (if a1 = a2 then (some (a1, s0_0, (a1 == 35))) else (some (46, s0_0, true))) else (some (a1, s0_0, (a1 == 35)))) else (some (46, s0_0, true))))) = some (r1, r2, r3) := by rw [if_neg (show ¬ (false = true) by decide)] at H; exact H
  clear H
  have H := H1
  clear H1
  by_cases c6 : a1 = 48
  ·
   rw [if_pos c6] at H
   have c6b0 : (a1 == 48) = true := beq_iff_eq.mpr c6
   have c6b1 : (a1 != 48) = false := bne_eq_false_iff_eq.mpr c6
   clear c6
   by_cases c7 : s0_0 = true
   ·
    subst c7
    have H1 : (if a1 = a2 then (some (a1, true, (a1 == 35))) else (some (46, true, true))) = some (r1, r2, r3) := by rw [if_pos rfl] at H; exact H
    clear H
    have H := H1
    clear H1
    by_cases c8 : a1 = a2
    ·
     rw [if_pos c8] at H
     have c8b0 : (a1 == a2) = true := beq_iff_eq.mpr c8
     have c8b1 : (a1 != a2) = false := bne_eq_false_iff_eq.mpr c8
     clear c8
     simp only [Option.some.injEq, Prod.mk.injEq] at H
     obtain ⟨rfl, rfl, rfl⟩ := H
     obtain ⟨HGz9, hgz9⟩ := HI0.out
     have hcz9_0 := cellS40_0 HGz9
     have hcz9_1 := cellS40_1 HGz9
     have hfz9_0 := blk_frozen HGz9 0
     have hfz9_1 := blk_frozen HGz9 1
     clear HGz9 hgz9
     go_enter Try.func10, Try.ntmps10
     go_wp2
     go_ret
     try rw [c18b0]
     exact ⟨by first | rfl | (simp [errW_none, errW_some] <;> rfl) | (simp [*, errW_none, errW_some] <;> rfl), by repeat (first | (with_reducible first | exact HI0.out | apply IsS40.alloc | apply IsS40.drewN | apply IsS40.drew | apply IsS40.set_0 | apply IsS40.set_1) | exact HI0.out), by repeat (first | (with_reducible first | exact HB.out | apply below_alloc | apply pw_below_drewN | apply below_drew1 | refine below_set ?_ (IsS40.ge HI0.out)) | exact HB.out), by repeat (first | (with_reducible first | exact HK.out | apply KeepBut.set_ | apply keep_drewN | apply keep_drew | apply keep_alloc) | exact HK.out)⟩
    ·
     rw [if_neg c8] at H
     have c8b0 : (a1 == a2) = false := beq_eq_false_iff_ne.mpr c8
     have c8b1 : (a1 != a2) = true := bne_iff_ne.mpr c8
     simp only [Option.some.injEq, Prod.mk.injEq] at H
     obtain ⟨rfl, rfl, rfl⟩ := H
     obtain ⟨HGz10, hgz10⟩ := HI0.out
     have hcz10_0 := cellS40_0 HGz10
     have hcz10_1 := cellS40_1 HGz10
     have hfz10_0 := blk_frozen HGz10 0
     have hfz10_1 := blk_frozen HGz10 1
     clear HGz10 hgz10
     go_enter Try.func10, Try.ntmps10
     go_wp2
     go_ret
     try rw [c18b0]
     exact ⟨by first | rfl | (simp [errW_none, errW_some] <;> rfl) | (simp [*, errW_none, errW_some] <;> rfl), by repeat (first | (with_reducible first | exact HI0.out | apply IsS40.alloc | apply IsS40.drewN | apply IsS40.drew | apply IsS40.set_0 | apply IsS40.set_1) | exact HI0.out), by repeat (first | (with_reducible first | exact HB.out | apply below_alloc | apply pw_below_drewN | apply below_drew1 | refine below_set ?_ (IsS40.ge HI0.out)) | exact HB.out), by repeat (first | (with_reducible first | exact HK.out | apply KeepBut.set_ | apply keep_drewN | apply keep_drew | apply keep_alloc) | exact HK.out)⟩
   ·
    replace c7 := Bool.eq_false_iff.mpr c7
    subst c7
    have H1 : (some (a1, false, (a1 == 35))) = some (r1, r2, r3) := by rw [if_neg (show ¬ (false = true) by decide)] at H; exact H
    clear H
    have H := H1
    clear H1
    simp only [Option.some.injEq, Prod.mk.injEq] at H
    obtain ⟨rfl, rfl, rfl⟩ := H
    obtain ⟨HGz11, hgz11⟩ := HI0.out
    have hcz11_0 := cellS40_0 HGz11
    have hcz11_1 := cellS40_1 HGz11
    have hfz11_0 := blk_frozen HGz11 0
    have hfz11_1 := blk_frozen HGz11 1
    clear HGz11 hgz11
    go_enter Try.func10, Try.ntmps10
    go_wp2
    go_ret
    try rw [c18b0]
    exact ⟨by first | rfl | (simp [errW_none, errW_some] <;> rfl) | (simp [*, errW_none, errW_some] <;> rfl), by repeat (first | (with_reducible first | exact HI0.out | apply IsS40.alloc | apply IsS40.drewN | apply IsS40.drew | apply IsS40.set_0 | apply IsS40.set_1) | exact HI0.out), by repeat (first | (with_reducible first | exact HB.out | apply below_alloc | apply pw_below_drewN | apply below_drew1 | refine below_set ?_ (IsS40.ge HI0.out)) | exact HB.out), by repeat (first | (with_reducible first | exact HK.out | apply KeepBut.set_ | apply keep_drewN | apply keep_drew | apply keep_alloc) | exact HK.out)⟩
  ·
   rw [if_neg c6] at H
   have c6b0 : (a1 == 48) = false := beq_eq_false_iff_ne.mpr c6
   have c6b1 : (a1 != 48) = true := bne_iff_ne.mpr c6
   by_cases c12 : a1 = 49
   ·
    rw [if_pos c12] at H
    have c12b0 : (a1 == 49) = true := beq_iff_eq.mpr c12
    have c12b1 : (a1 != 49) = false := bne_eq_false_iff_eq.mpr c12
    clear c12
    by_cases c13 : s0_0 = true
    ·
     subst c13
     have H1 : (if a1 = a2 then (some (a1, true, (a1 == 35))) else (some (46, true, true))) = some (r1, r2, r3) := by rw [if_pos rfl] at H; exact H
     clear H
     have H := H1
     clear H1
     by_cases c14 : a1 = a2
     ·
      rw [if_pos c14] at H
      have c14b0 : (a1 == a2) = true := beq_iff_eq.mpr c14
      have c14b1 : (a1 != a2) = false := bne_eq_false_iff_eq.mpr c14
      clear c14
      simp only [Option.some.injEq, Prod.mk.injEq] at H
      obtain ⟨rfl, rfl, rfl⟩ := H
      obtain ⟨HGz15, hgz15⟩ := HI0.out
      have hcz15_0 := cellS40_0 HGz15
      have hcz15_1 := cellS40_1 HGz15
      have hfz15_0 := blk_frozen HGz15 0
      have hfz15_1 := blk_frozen HGz15 1
      clear HGz15 hgz15
      go_enter Try.func10, Try.ntmps10
      go_wp2
      go_ret
      try rw [c18b0]
      exact ⟨by first | rfl | (simp [errW_none, errW_some] <;> rfl) | (simp [*, errW_none, errW_some] <;> rfl), by repeat (first | (with_reducible first | exact HI0.out | apply IsS40.alloc | apply IsS40.drewN | apply IsS40.drew | apply IsS40.set_0 | apply IsS40.set_1) | exact HI0.out), by repeat (first | (with_reducible first | exact HB.out | apply below_alloc | apply pw_below_drewN | apply below_drew1 | refine below_set ?_ (IsS40.ge HI0.out)) | exact HB.out), by repeat (first | (with_reducible first | exact HK.out | apply KeepBut.set_ | apply keep_drewN | apply keep_drew | apply keep_alloc) | exact HK.out)⟩
     ·
      rw [if_neg c14] at H
      have c14b0 : (a1 == a2) = false := beq_eq_false_iff_ne.mpr c14
      have c14b1 : (a1 != a2) = true := bne_iff_ne.mpr c14
      simp only [Option.some.injEq, Prod.mk.injEq] at H
      obtain ⟨rfl, rfl, rfl⟩ := H
      obtain ⟨HGz16, hgz16⟩ := HI0.out
      have hcz16_0 := cellS40_0 HGz16
      have hcz16_1 := cellS40_1 HGz16
      have hfz16_0 := blk_frozen HGz16 0
      have hfz16_1 := blk_frozen HGz16 1
      clear HGz16 hgz16
      go_enter Try.func10, Try.ntmps10
      go_wp2
      go_ret
      try rw [c18b0]
      exact ⟨by first | rfl | (simp [errW_none, errW_some] <;> rfl) | (simp [*, errW_none, errW_some] <;> rfl), by repeat (first | (with_reducible first | exact HI0.out | apply IsS40.alloc | apply IsS40.drewN | apply IsS40.drew | apply IsS40.set_0 | apply IsS40.set_1) | exact HI0.out), by repeat (first | (with_reducible first | exact HB.out | apply below_alloc | apply pw_below_drewN | apply below_drew1 | refine below_set ?_ (IsS40.ge HI0.out)) | exact HB.out), by repeat (first | (with_reducible first | exact HK.out | apply KeepBut.set_ | apply keep_drewN | apply keep_drew | apply keep_alloc) | exact HK.out)⟩
    ·
     replace c13 := Bool.eq_false_iff.mpr c13
     subst c13
     have H1 : (some (a1, false, (a1 == 35))) = some (r1, r2, r3) := by rw [if_neg (show ¬ (false = true) by decide)] at H; exact H
     clear H
     have H := H1
     clear H1
     simp only [Option.some.injEq, Prod.mk.injEq] at H
     obtain ⟨rfl, rfl, rfl⟩ := H
     obtain ⟨HGz17, hgz17⟩ := HI0.out
     have hcz17_0 := cellS40_0 HGz17
     have hcz17_1 := cellS40_1 HGz17
     have hfz17_0 := blk_frozen HGz17 0
     have hfz17_1 := blk_frozen HGz17 1
     clear HGz17 hgz17
     go_enter Try.func10, Try.ntmps10
     go_wp2
     go_ret
     try rw [c18b0]
     exact ⟨by first | rfl | (simp [errW_none, errW_some] <;> rfl) | (simp [*, errW_none, errW_some] <;> rfl), by repeat (first | (with_reducible first | exact HI0.out | apply IsS40.alloc | apply IsS40.drewN | apply IsS40.drew | apply IsS40.set_0 | apply IsS40.set_1) | exact HI0.out), by repeat (first | (with_reducible first | exact HB.out | apply below_alloc | apply pw_below_drewN | apply below_drew1 | refine below_set ?_ (IsS40.ge HI0.out)) | exact HB.out), by repeat (first | (with_reducible first | exact HK.out | apply KeepBut.set_ | apply keep_drewN | apply keep_drew | apply keep_alloc) | exact HK.out)⟩
   ·
    rw [if_neg c12] at H
    have c12b0 : (a1 == 49) = false := beq_eq_false_iff_ne.mpr c12
    have c12b1 : (a1 != 49) = true := bne_iff_ne.mpr c12
    by_cases c18 : a1 = 35
    ·
     rw [if_pos c18] at H
     have c18b0 : (a1 == 35) = true := beq_iff_eq.mpr c18
     have c18b1 : (a1 != 35) = false := bne_eq_false_iff_eq.mpr c18
     clear c18
     by_cases c19 : s0_0 = true
     ·
      subst c19
      have H1 : (if a1 = a2 then (some (a1, true, (a1 == 35))) else (some (46, true, true))) = some (r1, r2, r3) := by rw [if_pos rfl] at H; exact H
      clear H
      have H := H1
      clear H1
      by_cases c20 : a1 = a2
      ·
       rw [if_pos c20] at H
       have c20b0 : (a1 == a2) = true := beq_iff_eq.mpr c20
       have c20b1 : (a1 != a2) = false := bne_eq_false_iff_eq.mpr c20
       clear c20
       simp only [Option.some.injEq, Prod.mk.injEq] at H
       obtain ⟨rfl, rfl, rfl⟩ := H
       obtain ⟨HGz21, hgz21⟩ := HI0.out
       have hcz21_0 := cellS40_0 HGz21
       have hcz21_1 := cellS40_1 HGz21
       have hfz21_0 := blk_frozen HGz21 0
       have hfz21_1 := blk_frozen HGz21 1
       clear HGz21 hgz21
       go_enter Try.func10, Try.ntmps10
       go_wp2
       go_ret
       try rw [c18b0]
       exact ⟨by first | rfl | (simp [errW_none, errW_some] <;> rfl) | (simp [*, errW_none, errW_some] <;> rfl), by repeat (first | (with_reducible first | exact HI0.out | apply IsS40.alloc | apply IsS40.drewN | apply IsS40.drew | apply IsS40.set_0 | apply IsS40.set_1) | exact HI0.out), by repeat (first | (with_reducible first | exact HB.out | apply below_alloc | apply pw_below_drewN | apply below_drew1 | refine below_set ?_ (IsS40.ge HI0.out)) | exact HB.out), by repeat (first | (with_reducible first | exact HK.out | apply KeepBut.set_ | apply keep_drewN | apply keep_drew | apply keep_alloc) | exact HK.out)⟩
      ·
       rw [if_neg c20] at H
       have c20b0 : (a1 == a2) = false := beq_eq_false_iff_ne.mpr c20
       have c20b1 : (a1 != a2) = true := bne_iff_ne.mpr c20
       simp only [Option.some.injEq, Prod.mk.injEq] at H
       obtain ⟨rfl, rfl, rfl⟩ := H
       obtain ⟨HGz22, hgz22⟩ := HI0.out
       have hcz22_0 := cellS40_0 HGz22
       have hcz22_1 := cellS40_1 HGz22
       have hfz22_0 := blk_frozen HGz22 0
       have hfz22_1 := blk_frozen HGz22 1
       clear HGz22 hgz22
       go_enter Try.func10, Try.ntmps10
       go_wp2
       go_ret
       try rw [c18b0]
       exact ⟨by first | rfl | (simp [errW_none, errW_some] <;> rfl) | (simp [*, errW_none, errW_some] <;> rfl), by repeat (first | (with_reducible first | exact HI0.out | apply IsS40.alloc | apply IsS40.drewN | apply IsS40.drew | apply IsS40.set_0 | apply IsS40.set_1) | exact HI0.out), by repeat (first | (with_reducible first | exact HB.out | apply below_alloc | apply pw_below_drewN | apply below_drew1 | refine below_set ?_ (IsS40.ge HI0.out)) | exact HB.out), by repeat (first | (with_reducible first | exact HK.out | apply KeepBut.set_ | apply keep_drewN | apply keep_drew | apply keep_alloc) | exact HK.out)⟩
     ·
      replace c19 := Bool.eq_false_iff.mpr c19
      subst c19
      have H1 : (some (a1, false, (a1 == 35))) = some (r1, r2, r3) := by rw [if_neg (show ¬ (false = true) by decide)] at H; exact H
      clear H
      have H := H1
      clear H1
      simp only [Option.some.injEq, Prod.mk.injEq] at H
      obtain ⟨rfl, rfl, rfl⟩ := H
      obtain ⟨HGz23, hgz23⟩ := HI0.out
      have hcz23_0 := cellS40_0 HGz23
      have hcz23_1 := cellS40_1 HGz23
      have hfz23_0 := blk_frozen HGz23 0
      have hfz23_1 := blk_frozen HGz23 1
      clear HGz23 hgz23
      go_enter Try.func10, Try.ntmps10
      go_wp2
      go_ret
      try rw [c18b0]
      exact ⟨by first | rfl | (simp [errW_none, errW_some] <;> rfl) | (simp [*, errW_none, errW_some] <;> rfl), by repeat (first | (with_reducible first | exact HI0.out | apply IsS40.alloc | apply IsS40.drewN | apply IsS40.drew | apply IsS40.set_0 | apply IsS40.set_1) | exact HI0.out), by repeat (first | (with_reducible first | exact HB.out | apply below_alloc | apply pw_below_drewN | apply below_drew1 | refine below_set ?_ (IsS40.ge HI0.out)) | exact HB.out), by repeat (first | (with_reducible first | exact HK.out | apply KeepBut.set_ | apply keep_drewN | apply keep_drew | apply keep_alloc) | exact HK.out)⟩
    ·
     rw [if_neg c18] at H
     have c18b0 : (a1 == 35) = false := beq_eq_false_iff_ne.mpr c18
     have c18b1 : (a1 != 35) = true := bne_iff_ne.mpr c18
     simp only [Option.some.injEq, Prod.mk.injEq] at H
     obtain ⟨rfl, rfl, rfl⟩ := H
     obtain ⟨HGz24, hgz24⟩ := HI0.out
     have hcz24_0 := cellS40_0 HGz24
     have hcz24_1 := cellS40_1 HGz24
     have hfz24_0 := blk_frozen HGz24 0
     have hfz24_1 := blk_frozen HGz24 1
     clear HGz24 hgz24
     go_enter Try.func10, Try.ntmps10
     go_wp2
     go_ret
     try rw [c18b0]
     exact ⟨by first | rfl | (simp [errW_none, errW_some] <;> rfl) | (simp [*, errW_none, errW_some] <;> rfl), by repeat (first | (with_reducible first | exact HI0.out | apply IsS40.alloc | apply IsS40.drewN | apply IsS40.drew | apply IsS40.set_0 | apply IsS40.set_1) | exact HI0.out), by repeat (first | (with_reducible first | exact HB.out | apply below_alloc | apply pw_below_drewN | apply below_drew1 | refine below_set ?_ (IsS40.ge HI0.out)) | exact HB.out), by repeat (first | (with_reducible first | exact HK.out | apply KeepBut.set_ | apply keep_drewN | apply keep_drew | apply keep_alloc) | exact HK.out)⟩
end Go.Proofs.Ytcfbmofffipmpaa.P
