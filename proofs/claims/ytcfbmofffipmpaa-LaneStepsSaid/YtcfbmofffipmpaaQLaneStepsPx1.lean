/- Printed by a program of this session (myprint) out of the translation: the functions as plain Lean functions, and that the calls compute them. What counts is Lean's check. -/
import Derived.Test.YtcfbmofffipmpaaQLaneStepsBuilder
import Derived.Test.YtcfbmofffipmpaaQLaneStepsShort
namespace Go.Proofs.Ytcfbmofffipmpaa.P
open Go.RowKit Go.Proofs.YtcfbmofffipmpaaW.PrintWords Go.Proofs.YtcfbmofffipmpaaW.PrintLast Go.Proofs.YtcfbmofffipmpaaW.PrintMore
attribute [local go_sem] max2_int min2_int max_two min_two max_three min_three max_four min_four
set_option linter.unusedVariables false
set_option linter.unusedSimpArgs false
attribute [-simp] ByteArray.size_extract ByteArray.size_append ByteArray.extract_append_extract
attribute [-go_sem] ByteArray.size_append'
def IsS38 (w0 W : World) (g : Nat) (f0 : Bool) (f1 : Bool) : Prop := W.heap[g]? = some (.cells #[.bool f0, .bool f1] 38 (0, 0)) ∧ w0.heap.size ≤ g
theorem IsS38.grown {w0 W : World} {g : Nat} {f0 : Bool} {f1 : Bool} {W1 : World} {row : Option Nat} (h : IsS38 w0 W g f0 f1) (hw : W.grownBy W1 row) (hne : some g ≠ row) : IsS38 w0 W1 g f0 f1 := by
 obtain ⟨hb, hg⟩ := h
 exact ⟨blk_grown hb hw hne, hg⟩
theorem IsS38.kept {w0 W : World} {g : Nat} {f0 : Bool} {f1 : Bool} {W1 : World} {S : Nat → Prop} (h : IsS38 w0 W g f0 f1) (hk : Kept W W1 S) (hne : ¬ S g) : IsS38 w0 W1 g f0 f1 := by
 obtain ⟨hb, hg⟩ := h
 exact ⟨blk_kept hb hk hne, hg⟩
theorem IsS38.below {w0 W : World} {g : Nat} {f0 : Bool} {f1 : Bool} {W1 : World} (h : IsS38 w0 W g f0 f1) (hw : Below W.heap.size W W1) : IsS38 w0 W1 g f0 f1 := h.grown (grown_of_below hw none) (by simp)
theorem IsS38.alloc {w0 W : World} {g : Nat} {f0 : Bool} {f1 : Bool} (h : IsS38 w0 W g f0 f1) (o : Obj) : IsS38 w0 (W.alloc o) g f0 f1 := h.below (below_alloc (Below.refl _ _) o)
theorem IsS38.drewN {w0 W : World} {g : Nat} {f0 : Bool} {f1 : Bool} (h : IsS38 w0 W g f0 f1) (m : Nat) : IsS38 w0 (W.drewN m) g f0 f1 := h
theorem IsS38.drew {w0 W : World} {g : Nat} {f0 : Bool} {f1 : Bool} (h : IsS38 w0 W g f0 f1) : IsS38 w0 W.drew g f0 f1 := h
theorem IsS38.at_ {w0 W : World} {g : Nat} {f0 : Bool} {f1 : Bool} {w' : World} {m : Nat} (hq : W.drewN m = w') (h : IsS38 w0 W g f0 f1) : IsS38 w0 w' g f0 f1 := by subst hq; exact IsS38.drewN h m
theorem IsS38.apart {w0 W : World} {g : Nat} {f0 : Bool} {f1 : Bool} {α : Type} {d : Kd α} {e : Nat} {base : Nat} {ok : Nat → Prop} {v : Value} {xs : List α} (h : IsS38 w0 W g f0 f1) (ho : d.R e W base ok v xs) (ht : ∀ q, q ∈ e :: d.E → q ≠ 38) : d.R e W base (fun k => ok k ∧ k ≠ g) v xs := by
 obtain ⟨hb, hg⟩ := h
 exact Kd.R_types ho hb ht
theorem IsS38.own_ne {w0 W : World} {g : Nat} {f0 : Bool} {f1 : Bool} {α : Type} {d : Kd α} {e : Nat} {base : Nat} {ok : Nat → Prop} {v : Value} {xs : List α} (h : IsS38 w0 W g f0 f1) (ho : d.R e W base ok v xs) (ht : e ≠ 38) : some g ≠ v.ownBlock := by
 obtain ⟨hb, hg⟩ := h
 exact Kd.R_ne ho hb ht
theorem IsS38.lt {w0 W : World} {g : Nat} {f0 : Bool} {f1 : Bool} (h : IsS38 w0 W g f0 f1) : g < W.heap.size := by
 obtain ⟨hb, hg⟩ := h
 exact blk_lt hb
theorem IsS38.ge {w0 W : World} {g : Nat} {f0 : Bool} {f1 : Bool} (h : IsS38 w0 W g f0 f1) : w0.heap.size ≤ g := by
 obtain ⟨hb, hg⟩ := h
 exact hg
theorem IsS38.ne_blk {w0 W : World} {g : Nat} {f0 : Bool} {f1 : Bool} {a : Nat} {cs : Array Value} {t : TypeId} {fr : Nat × Nat} (h : IsS38 w0 W g f0 f1) (hb2 : W.heap[a]? = some (.cells cs t fr)) (ht : t ≠ 38) : g ≠ a := by
 obtain ⟨hb, hg⟩ := h
 rintro rfl
 rw [hb] at hb2
 injection hb2 with hb2
 injection hb2 with _ ht2
 exact ht ht2.symm
theorem cellS38_0 {W : World} {g : Nat} {f0 : Bool} {f1 : Bool} (h : W.heap[g]? = some (.cells #[.bool f0, .bool f1] 38 (0, 0))) : W.cell? ⟨g, 0, none⟩ = some (.bool f0) := (blk_cell h 0).trans rfl
theorem IsS38.set_0 {w0 W : World} {g : Nat} {f0 : Bool} {f1 : Bool} (h : IsS38 w0 W g f0 f1) (x : Bool) : IsS38 w0 (W.setCell ⟨g, 0, none⟩ (.bool x)) g x f1 := by
 obtain ⟨hb, hg⟩ := h
 exact ⟨by simpa using blk_set hb 0 (.bool x), hg⟩
theorem cellS38_1 {W : World} {g : Nat} {f0 : Bool} {f1 : Bool} (h : W.heap[g]? = some (.cells #[.bool f0, .bool f1] 38 (0, 0))) : W.cell? ⟨g, 1, none⟩ = some (.bool f1) := (blk_cell h 1).trans rfl
theorem IsS38.set_1 {w0 W : World} {g : Nat} {f0 : Bool} {f1 : Bool} (h : IsS38 w0 W g f0 f1) (x : Bool) : IsS38 w0 (W.setCell ⟨g, 1, none⟩ (.bool x)) g f0 x := by
 obtain ⟨hb, hg⟩ := h
 exact ⟨by simpa using blk_set hb 1 (.bool x), hg⟩
def lane_New.f (a0 : Bool) : Option (Bool × Bool) := some (a0, false)
set_option maxHeartbeats 8000000 in
set_option maxRecDepth 100000 in
theorem lane_New.calls (a0 : Bool) (r1 : Bool) (r2 : Bool) (w0 w : World) (hB : Below w0.heap.size w0 w) (h : lane_New.f a0 = some (r1, r2)) :
  Calls Try.prog 7 #[.bool a0] w fun e w' => ∃ g_ : Nat, e = .returned (.pointer (some ⟨g_, 0, none⟩)) ∧ IsS38 w0 w' g_ r1 r2 ∧ Below w0.heap.size w0 w' ∧ Below w.heap.size w w' := by
 have hu38 := Try.underlying38
 have HBW := Aside0.mk (Below.refl w.heap.size w)
 have HW0 := Aside0.mk hB.size
 have HB := Aside0.mk hB
 clear hB
 have H : (some (a0, false)) = some (r1, r2) := h
 clear h
 simp only [Option.some.injEq, Prod.mk.injEq] at H
 obtain ⟨rfl, rfl⟩ := H
 go_enter Try.func7, Try.ntmps7
 go_wp2_with (first | ((with_reducible refine gate_dst (N := 5) rfl ?_); refine be_ 5 #[.bool a0, .bool false] 38 ?_; intro gbAa hg w2 hbox hb; have n0_ := Aside0.mk (below_step HBW.out hb); have n1_ := bs_ HB hb; have n2_ := Aside0.mk (hbox); have n3_ := Aside0.mk ((by rw [hg]; exact (below_size (by repeat (first | (with_reducible first | exact HBW.out | apply below_alloc | apply pw_below_drewN | apply below_drew1) | exact HBW.out))) : w.heap.size ≤ gbAa)); have n4_ := Aside0.mk ((Nat.le_trans HW0.out (by rw [hg]; exact (below_size (by repeat (first | (with_reducible first | exact HBW.out | apply below_alloc | apply pw_below_drewN | apply below_drew1) | exact HBW.out))) : w.heap.size ≤ gbAa) : w0.heap.size ≤ gbAa)); clear HBW; clear HB; have HBW := n0_; have HB := n1_; have BKAa := n2_; have GWAa := n3_; have GEAa := n4_; clear n0_ n1_ n2_ n3_ n4_; clear hb hbox hg))
 go_ret
 exact ⟨_, rfl, (show IsS38 w0 _ gbAa a0 false from ⟨by (with_reducible repeat (first | refine blk_drewN ?_ _ | refine blk_drew ?_ | refine blk_alloc ?_ _)); exact BKAa.out, GEAa.out⟩), pH_ HB.out, by repeat (first | (with_reducible first | exact HBW.out | apply below_alloc | apply pw_below_drewN | apply below_drew1 | refine below_set ?_ GWAa.out) | exact HBW.out)⟩
def lane_symbol.f (a0 : Int) : Option (Bool) := if a0 = 48 then (some true) else (if a0 = 49 then (some true) else (some (a0 == 35)))
set_option maxHeartbeats 8000000 in
set_option maxRecDepth 100000 in
theorem lane_symbol.calls (a0 : Int) (r : Bool) (w : World) (h : lane_symbol.f a0 = some r) :
  Calls Try.prog 19 #[.int .i32 a0] w fun e w' => e = .returned (.bool r) ∧ Drawn0 w w' := by
 have H : (if a0 = 48 then (some true) else (if a0 = 49 then (some true) else (some (a0 == 35)))) = some r := h
 clear h
 by_cases c2 : a0 = 48
 ·
  rw [if_pos c2] at H
  have c2b0 : (a0 == 48) = true := beq_iff_eq.mpr c2
  have c2b1 : (a0 != 48) = false := bne_eq_false_iff_eq.mpr c2
  clear c2
  obtain rfl := Option.some.inj H
  go_enter Try.func19, Try.ntmps19
  go_wp2
  go_ret
  exact ⟨by first | rfl | (simp; done) | (simp [*]; done), by repeat (first | exact Drawn0.refl _ | apply Drawn0.step)⟩
 ·
  rw [if_neg c2] at H
  have c2b0 : (a0 == 48) = false := beq_eq_false_iff_ne.mpr c2
  have c2b1 : (a0 != 48) = true := bne_iff_ne.mpr c2
  by_cases c3 : a0 = 49
  ·
   rw [if_pos c3] at H
   have c3b0 : (a0 == 49) = true := beq_iff_eq.mpr c3
   have c3b1 : (a0 != 49) = false := bne_eq_false_iff_eq.mpr c3
   clear c3
   obtain rfl := Option.some.inj H
   go_enter Try.func19, Try.ntmps19
   go_wp2
   go_ret
   exact ⟨by first | rfl | (simp; done) | (simp [*]; done), by repeat (first | exact Drawn0.refl _ | apply Drawn0.step)⟩
  ·
   rw [if_neg c3] at H
   have c3b0 : (a0 == 49) = false := beq_eq_false_iff_ne.mpr c3
   have c3b1 : (a0 != 49) = true := bne_iff_ne.mpr c3
   obtain rfl := Option.some.inj H
   go_enter Try.func19, Try.ntmps19
   go_wp2
   go_ret
   exact ⟨by first | rfl | (simp; done) | (simp [*]; done), by repeat (first | exact Drawn0.refl _ | apply Drawn0.step)⟩
def lane_Lane_passes.f (s0_0 : Bool) (s0_1 : Bool) (a1 : Int) (a2 : Int) : Option (Bool × Bool × Bool) := if s0_1 = true then (some (false, s0_0, s0_1)) else ((lane_symbol.f (wrap32 (a1))).bind fun tAc => (if tAc = true then (if s0_0 = true then (some ((a2 == a1), s0_0, s0_1)) else (some (true, s0_0, s0_1))) else (some (false, s0_0, s0_1))))
set_option maxHeartbeats 8000000 in
set_option maxRecDepth 100000 in
theorem lane_Lane_passes.calls (g : Nat) (s0_0 : Bool) (s0_1 : Bool) (a1 : Int) (a2 : Int) (r1 : Bool) (r2 : Bool) (r3 : Bool) (w0 w : World) (hI : IsS38 w0 w g s0_0 s0_1) (hB : Below w0.heap.size w0 w) (h : lane_Lane_passes.f s0_0 s0_1 a1 a2 = some (r1, r2, r3)) :
  Calls Try.prog 14 #[.pointer (some ⟨g, 0, none⟩), .int .u8 a1, .int .u8 a2] w fun e w' => e = .returned (.bool r1) ∧ IsS38 w0 w' g r2 r3 ∧ Below w0.heap.size w0 w' ∧ KeepBut w w' g none := by
 have HI0 := Aside0.mk hI
 have HK := Aside0.mk (KeepBut.refl w g none)
 have HL := Aside0.mk hB.size
 clear hI
 have HW0 := Aside0.mk hB.size
 have HB := Aside0.mk hB
 clear hB
 have H : (if s0_1 = true then (some (false, s0_0, s0_1)) else ((lane_symbol.f (wrap32 (a1))).bind fun tAc => (if tAc = true then (if s0_0 = true then (some ((a2 == a1), s0_0, s0_1)) else (some (true, s0_0, s0_1))) else (some (false, s0_0, s0_1))))) = some (r1, r2, r3) := h
 clear h
 by_cases c4 : s0_1 = true
 ·
  subst c4
  have H1 : (some (false, s0_0, true)) = some (r1, r2, r3) := by rw [if_pos rfl] at H; exact H
  clear H
  have H := H1
  clear H1
  simp only [Option.some.injEq, Prod.mk.injEq] at H
  obtain ⟨rfl, rfl, rfl⟩ := H
  obtain ⟨HGz5, hgz5⟩ := HI0.out
  have hcz5_0 := cellS38_0 HGz5
  have hcz5_1 := cellS38_1 HGz5
  have hfz5_0 := blk_frozen HGz5 0
  have hfz5_1 := blk_frozen HGz5 1
  clear HGz5 hgz5
  go_enter Try.func14, Try.ntmps14
  go_wp2
  go_ret
  exact ⟨by first | rfl | (simp [errW_none, errW_some] <;> rfl) | (simp [*, errW_none, errW_some] <;> rfl), by repeat (first | (with_reducible first | exact HI0.out | apply IsS38.alloc | apply IsS38.drewN | apply IsS38.drew | apply IsS38.set_0 | apply IsS38.set_1) | exact HI0.out), by repeat (first | (with_reducible first | exact HB.out | apply below_alloc | apply pw_below_drewN | apply below_drew1 | refine below_set ?_ (IsS38.ge HI0.out)) | exact HB.out), by repeat (first | (with_reducible first | exact HK.out | apply KeepBut.set_ | apply keep_drewN | apply keep_drew | apply keep_alloc) | exact HK.out)⟩
 ·
  replace c4 := Bool.eq_false_iff.mpr c4
  subst c4
  have H1 : ((lane_symbol.f (wrap32 (a1))).bind fun tAc => (if tAc = true then (if s0_0 = true then (some ((a2 == a1), s0_0, false)) else (some (true, s0_0, false))) else (some (false, s0_0, false)))) = some (r1, r2, r3) := by rw [if_neg (show ¬ (false = true) by decide)] at H; exact H
  clear H
  have H := H1
  clear H1
  replace H := Option.bind_eq_some_iff.mp H
  obtain ⟨tAc, A60, H⟩ := H
  try dsimp only at H
  have A6 := Aside0.mk A60
  clear A60
  by_cases c7 : tAc = true
  ·
   subst c7
   have H1 : (if s0_0 = true then (some ((a2 == a1), s0_0, false)) else (some (true, s0_0, false))) = some (r1, r2, r3) := by rw [if_pos rfl] at H; exact H
   clear H
   have H := H1
   clear H1
   by_cases c8 : s0_0 = true
   ·
    subst c8
    have H1 : (some ((a2 == a1), true, false)) = some (r1, r2, r3) := by rw [if_pos rfl] at H; exact H
    clear H
    have H := H1
    clear H1
    simp only [Option.some.injEq, Prod.mk.injEq] at H
    obtain ⟨rfl, rfl, rfl⟩ := H
    obtain ⟨HGz9, hgz9⟩ := HI0.out
    have hcz9_0 := cellS38_0 HGz9
    have hcz9_1 := cellS38_1 HGz9
    have hfz9_0 := blk_frozen HGz9 0
    have hfz9_1 := blk_frozen HGz9 1
    clear HGz9 hgz9
    go_enter Try.func14, Try.ntmps14
    go_wp2_with (first | (go_at_call 19; (with_reducible refine (lane_symbol.calls (wrap32 (a1)) true _ A6.out).mono ?_); rintro e w' ⟨rfl, ⟨nd, rfl⟩⟩))
    go_ret
    exact ⟨by first | rfl | (simp [errW_none, errW_some] <;> rfl) | (simp [*, errW_none, errW_some] <;> rfl), by repeat (first | (with_reducible first | exact HI0.out | apply IsS38.alloc | apply IsS38.drewN | apply IsS38.drew | apply IsS38.set_0 | apply IsS38.set_1) | exact HI0.out), by repeat (first | (with_reducible first | exact HB.out | apply below_alloc | apply pw_below_drewN | apply below_drew1 | refine below_set ?_ (IsS38.ge HI0.out)) | exact HB.out), by repeat (first | (with_reducible first | exact HK.out | apply KeepBut.set_ | apply keep_drewN | apply keep_drew | apply keep_alloc) | exact HK.out)⟩
   ·
    replace c8 := Bool.eq_false_iff.mpr c8
    subst c8
    have H1 : (some (true, false, false)) = some (r1, r2, r3) := by rw [if_neg (show ¬ (false = true) by decide)] at H; exact H
    clear H
    have H := H1
    clear H1
    simp only [Option.some.injEq, Prod.mk.injEq] at H
    obtain ⟨rfl, rfl, rfl⟩ := H
    obtain ⟨HGz10, hgz10⟩ := HI0.out
    have hcz10_0 := cellS38_0 HGz10
    have hcz10_1 := cellS38_1 HGz10
    have hfz10_0 := blk_frozen HGz10 0
    have hfz10_1 := blk_frozen HGz10 1
    clear HGz10 hgz10
    go_enter Try.func14, Try.ntmps14
    go_wp2_with (first | (go_at_call 19; (with_reducible refine (lane_symbol.calls (wrap32 (a1)) true _ A6.out).mono ?_); rintro e w' ⟨rfl, ⟨nd, rfl⟩⟩))
    go_ret
    exact ⟨by first | rfl | (simp [errW_none, errW_some] <;> rfl) | (simp [*, errW_none, errW_some] <;> rfl), by repeat (first | (with_reducible first | exact HI0.out | apply IsS38.alloc | apply IsS38.drewN | apply IsS38.drew | apply IsS38.set_0 | apply IsS38.set_1) | exact HI0.out), by repeat (first | (with_reducible first | exact HB.out | apply below_alloc | apply pw_below_drewN | apply below_drew1 | refine below_set ?_ (IsS38.ge HI0.out)) | exact HB.out), by repeat (first | (with_reducible first | exact HK.out | apply KeepBut.set_ | apply keep_drewN | apply keep_drew | apply keep_alloc) | exact HK.out)⟩
  ·
   replace c7 := Bool.eq_false_iff.mpr c7
   subst c7
   have H1 : (some (false, s0_0, false)) = some (r1, r2, r3) := by rw [if_neg (show ¬ (false = true) by decide)] at H; exact H
   clear H
   have H := H1
   clear H1
   simp only [Option.some.injEq, Prod.mk.injEq] at H
   obtain ⟨rfl, rfl, rfl⟩ := H
   obtain ⟨HGz11, hgz11⟩ := HI0.out
   have hcz11_0 := cellS38_0 HGz11
   have hcz11_1 := cellS38_1 HGz11
   have hfz11_0 := blk_frozen HGz11 0
   have hfz11_1 := blk_frozen HGz11 1
   clear HGz11 hgz11
   go_enter Try.func14, Try.ntmps14
   go_wp2_with (first | (go_at_call 19; (with_reducible refine (lane_symbol.calls (wrap32 (a1)) false _ A6.out).mono ?_); rintro e w' ⟨rfl, ⟨nd, rfl⟩⟩))
   go_ret
   exact ⟨by first | rfl | (simp [errW_none, errW_some] <;> rfl) | (simp [*, errW_none, errW_some] <;> rfl), by repeat (first | (with_reducible first | exact HI0.out | apply IsS38.alloc | apply IsS38.drewN | apply IsS38.drew | apply IsS38.set_0 | apply IsS38.set_1) | exact HI0.out), by repeat (first | (with_reducible first | exact HB.out | apply below_alloc | apply pw_below_drewN | apply below_drew1 | refine below_set ?_ (IsS38.ge HI0.out)) | exact HB.out), by repeat (first | (with_reducible first | exact HK.out | apply KeepBut.set_ | apply keep_drewN | apply keep_drew | apply keep_alloc) | exact HK.out)⟩
def lane_Lane_Step.f (s0_0 : Bool) (s0_1 : Bool) (a1 : Int) (a2 : Int) : Option (Int × Bool × Bool) := (lane_Lane_passes.f s0_0 s0_1 a1 a2).bind fun btAb => (if btAb.1 = true then (some (a1, btAb.2.1, (a1 == 35))) else (some (46, btAb.2.1, true)))
set_option maxHeartbeats 8000000 in
set_option maxRecDepth 100000 in
theorem lane_Lane_Step.calls (g : Nat) (s0_0 : Bool) (s0_1 : Bool) (a1 : Int) (a2 : Int) (r1 : Int) (r2 : Bool) (r3 : Bool) (w0 w : World) (hI : IsS38 w0 w g s0_0 s0_1) (hB : Below w0.heap.size w0 w) (h : lane_Lane_Step.f s0_0 s0_1 a1 a2 = some (r1, r2, r3)) :
  Calls Try.prog 9 #[.pointer (some ⟨g, 0, none⟩), .int .u8 a1, .int .u8 a2] w fun e w' => e = .returned (.int .u8 r1) ∧ IsS38 w0 w' g r2 r3 ∧ Below w0.heap.size w0 w' ∧ KeepBut w w' g none := by
 have HI0 := Aside0.mk hI
 have HK := Aside0.mk (KeepBut.refl w g none)
 have HL := Aside0.mk hB.size
 clear hI
 have HW0 := Aside0.mk hB.size
 have HB := Aside0.mk hB
 clear hB
 have H : ((lane_Lane_passes.f s0_0 s0_1 a1 a2).bind fun btAb => (if btAb.1 = true then (some (a1, btAb.2.1, (a1 == 35))) else (some (46, btAb.2.1, true)))) = some (r1, r2, r3) := h
 clear h
 replace H := Option.bind_eq_some_iff.mp H
 obtain ⟨⟨tAb, tAd, tAe⟩, A40, H⟩ := H
 try dsimp only at H
 have A4 := Aside0.mk A40
 clear A40
 by_cases c5 : tAb = true
 ·
  subst c5
  have H1 : (some (a1, tAd, (a1 == 35))) = some (r1, r2, r3) := by rw [if_pos rfl] at H; exact H
  clear H
  have H := H1
  clear H1
  simp only [Option.some.injEq, Prod.mk.injEq] at H
  obtain ⟨rfl, rfl, rfl⟩ := H
  go_enter Try.func9, Try.ntmps9
  go_wp2_with (first | ((with_reducible refine gate_callee (f := 14) rfl ?_); refine gL_ 10 Try.func14 #[.pointer (some ⟨g, 0, none⟩), .int .u8 a1, .int .u8 a2] ?_; (with_reducible refine (lane_Lane_passes.calls g s0_0 s0_1 a1 a2 true tAd tAe w0 _ ?side1 ?side2 A4.out).mono ?_); (case side1 => repeat (first | (with_reducible first | exact HI0.out | apply IsS38.alloc | apply IsS38.drewN | apply IsS38.drew | apply IsS38.set_0 | apply IsS38.set_1) | exact HI0.out)); (case side2 => repeat (first | (with_reducible first | exact HB.out | apply below_alloc | apply pw_below_drewN | apply below_drew1 | refine below_set ?_ (IsS38.ge HI0.out)) | exact HB.out)); rintro e w6 ⟨rfl, hi, hb, hk⟩; refine ⟨_, rfl, ?_⟩; have n0_ := Aside0.mk (KeepBut.trans (by repeat (first | (with_reducible first | exact HK.out | apply KeepBut.set_ | apply keep_drewN | apply keep_drew | apply keep_alloc) | exact HK.out)) hk (.inl rfl)); have n1_ := Aside0.mk (hb); have n2_ := Aside0.mk (hi); clear HK; clear HB; clear HI0; have HK := n0_; have HB := n1_; have HI0 := n2_; clear n0_ n1_ n2_; (try clear hb); (try clear hb2); (try clear hk); (try clear hi); obtain ⟨HGz7, hgz7⟩ := HI0.out; have hcz7_0 := cellS38_0 HGz7; have hcz7_1 := cellS38_1 HGz7; have hfz7_0 := blk_frozen HGz7 0; have hfz7_1 := blk_frozen HGz7 1; clear HGz7 hgz7))
  go_ret
  exact ⟨by first | rfl | (simp [errW_none, errW_some] <;> rfl) | (simp [*, errW_none, errW_some] <;> rfl), by repeat (first | (with_reducible first | exact HI0.out | apply IsS38.alloc | apply IsS38.drewN | apply IsS38.drew | apply IsS38.set_0 | apply IsS38.set_1) | exact HI0.out), by repeat (first | (with_reducible first | exact HB.out | apply below_alloc | apply pw_below_drewN | apply below_drew1 | refine below_set ?_ (IsS38.ge HI0.out)) | exact HB.out), by repeat (first | (with_reducible first | exact HK.out | apply KeepBut.set_ | apply keep_drewN | apply keep_drew | apply keep_alloc) | exact HK.out)⟩
 ·
  replace c5 := Bool.eq_false_iff.mpr c5
  subst c5
  have H1 : (some (46, tAd, true)) = some (r1, r2, r3) := by rw [if_neg (show ¬ (false = true) by decide)] at H; exact H
  clear H
  have H := H1
  clear H1
  simp only [Option.some.injEq, Prod.mk.injEq] at H
  obtain ⟨rfl, rfl, rfl⟩ := H
  go_enter Try.func9, Try.ntmps9
  go_wp2_with (first | ((with_reducible refine gate_callee (f := 14) rfl ?_); refine gL_ 10 Try.func14 #[.pointer (some ⟨g, 0, none⟩), .int .u8 a1, .int .u8 a2] ?_; (with_reducible refine (lane_Lane_passes.calls g s0_0 s0_1 a1 a2 false tAd tAe w0 _ ?side1 ?side2 A4.out).mono ?_); (case side1 => repeat (first | (with_reducible first | exact HI0.out | apply IsS38.alloc | apply IsS38.drewN | apply IsS38.drew | apply IsS38.set_0 | apply IsS38.set_1) | exact HI0.out)); (case side2 => repeat (first | (with_reducible first | exact HB.out | apply below_alloc | apply pw_below_drewN | apply below_drew1 | refine below_set ?_ (IsS38.ge HI0.out)) | exact HB.out)); rintro e w8 ⟨rfl, hi, hb, hk⟩; refine ⟨_, rfl, ?_⟩; have n0_ := Aside0.mk (KeepBut.trans (by repeat (first | (with_reducible first | exact HK.out | apply KeepBut.set_ | apply keep_drewN | apply keep_drew | apply keep_alloc) | exact HK.out)) hk (.inl rfl)); have n1_ := Aside0.mk (hb); have n2_ := Aside0.mk (hi); clear HK; clear HB; clear HI0; have HK := n0_; have HB := n1_; have HI0 := n2_; clear n0_ n1_ n2_; (try clear hb); (try clear hb2); (try clear hk); (try clear hi); obtain ⟨HGz9, hgz9⟩ := HI0.out; have hcz9_0 := cellS38_0 HGz9; have hcz9_1 := cellS38_1 HGz9; have hfz9_0 := blk_frozen HGz9 0; have hfz9_1 := blk_frozen HGz9 1; clear HGz9 hgz9))
  go_ret
  exact ⟨by first | rfl | (simp [errW_none, errW_some] <;> rfl) | (simp [*, errW_none, errW_some] <;> rfl), by repeat (first | (with_reducible first | exact HI0.out | apply IsS38.alloc | apply IsS38.drewN | apply IsS38.drew | apply IsS38.set_0 | apply IsS38.set_1) | exact HI0.out), by repeat (first | (with_reducible first | exact HB.out | apply below_alloc | apply pw_below_drewN | apply below_drew1 | refine below_set ?_ (IsS38.ge HI0.out)) | exact HB.out), by repeat (first | (with_reducible first | exact HK.out | apply KeepBut.set_ | apply keep_drewN | apply keep_drew | apply keep_alloc) | exact HK.out)⟩
def lane_at.f (a0 : ByteArray) (a1 : Int) : Option (Int) := if a1 < (a0.size : Int) then (if 0 ≤ a1 then (some (bt a0 a1)) else (none)) else (some 46)
set_option maxHeartbeats 8000000 in
set_option maxRecDepth 100000 in
theorem lane_at.calls (a0 : ByteArray) (a1 : Int) (r : Int) (w : World) (h : lane_at.f a0 a1 = some r) :
  Calls Try.prog 15 #[.string a0, .int .i64 a1] w fun e w' => e = .returned (.int .u8 r) ∧ Drawn0 w w' := by
 have H : (if a1 < (a0.size : Int) then (if 0 ≤ a1 then (some (bt a0 a1)) else (none)) else (some 46)) = some r := h
 clear h
 by_cases c3 : a1 < (a0.size : Int)
 ·
  rw [if_pos c3] at H
  have c3b0 : decide (a1 < (a0.size : Int)) = true := decide_eq_true c3
  clear c3
  by_cases c4 : 0 ≤ a1
  ·
   rw [if_pos c4] at H
   have c4b0 : decide (0 ≤ a1) = true := decide_eq_true c4
   clear c4
   obtain rfl := Option.some.inj H
   have p5 : 0 ≤ (a1 : Int) := of_decide_eq_true (by first | (with_reducible assumption) | assumption)
   have q5 : a1 < (a0.size : Int) := of_decide_eq_true (by first | (with_reducible assumption) | assumption)
   have hx5 := bt_at a0 a1
   replace p5 := eq_true p5
   replace q5 := eq_true q5
   go_enter Try.func15, Try.ntmps15
   go_wp2
   go_ret
   exact ⟨by first | rfl | (simp; done) | (simp [*]; done), by repeat (first | exact Drawn0.refl _ | apply Drawn0.step)⟩
  ·
   rw [if_neg c4] at H
   exact absurd H (by simp)
 ·
  rw [if_neg c3] at H
  have c3b0 : decide (a1 < (a0.size : Int)) = false := decide_eq_false c3
  clear c3
  obtain rfl := Option.some.inj H
  go_enter Try.func15, Try.ntmps15
  go_wp2
  go_ret
  exact ⟨by first | rfl | (simp; done) | (simp [*]; done), by repeat (first | exact Drawn0.refl _ | apply Drawn0.step)⟩
def laneSym (s : ByteArray) (i : Nat) : Int := if i < s.size then bt s i else 46
def laneGoes (cmp : Bool) (d k : Int) : Bool := (d == 48 || d == 49 || d == 35) && (!cmp || k == d)
def laneOut (cmp : Bool) (a b : ByteArray) : Nat → Nat → List UInt8
 | 0, _ => []
 | n + 1, i => if laneGoes cmp (laneSym a i) (laneSym b i) = true then UInt8.ofNat (laneSym a i).toNat :: (if laneSym a i = 35 then [] else laneOut cmp a b n (i + 1)) else []
theorem laneSym_range (s : ByteArray) (i : Nat) : 0 ≤ laneSym s i ∧ laneSym s i ≤ 255 := by
 unfold laneSym
 split
 · exact bt_range s i
 · omega
theorem lane_at_eq (s : ByteArray) (i : Nat) : lane_at.f s (i : Int) = some (laneSym s i) := by
 unfold lane_at.f laneSym
 by_cases h : i < s.size
 · rw [if_pos (by omega), if_pos (by omega), if_pos h]
 · rw [if_neg (by omega), if_neg h]
theorem lane_step_eq (cmp shut : Bool) (d k : Int) (h0 : 0 ≤ d) (h1 : d ≤ 255) :
  lane_Lane_Step.f cmp shut d k = some (if (!shut && laneGoes cmp d k) = true then (d, cmp, (d == 35)) else (46, cmp, true)) := by
 have hw : wrap32 d = d := by unfold wrap32; omega
 unfold lane_Lane_Step.f lane_Lane_passes.f lane_symbol.f laneGoes
 rw [hw]
 cases shut <;> cases cmp <;> simp only [Bool.false_eq_true, if_true, if_false, Option.bind_some, Bool.not_true, Bool.not_false, Bool.true_and, Bool.false_and, Bool.true_or, Bool.false_or, Bool.and_true]
 all_goals
  by_cases e1 : d = 48
  ·
   subst e1; simp
   try (by_cases e4 : k = 48 <;> simp [e4])
  ·
   by_cases e2 : d = 49
   ·
    subst e2; simp
    try (by_cases e4 : k = 49 <;> simp [e4])
   ·
    by_cases e3 : d = 35
    ·
     subst e3; simp
     try (by_cases e4 : k = 35 <;> simp [e4])
    · simp [e1, e2, e3]
def lane_Out.f (a0 : Bool) (a1 : ByteArray) (a2 : ByteArray) : Option ByteArray := if a1.size ≤ 140737488351232 then some ⟨(laneOut a0 a1 a2 (a1.size + 1) 0).toArray⟩ else none
theorem laneOut_idle (cmp : Bool) (a b : ByteArray) (n i : Nat) (h : laneGoes cmp (laneSym a i) (laneSym b i) = false) : laneOut cmp a b n i = [] := by
 cases n with
 | zero => rfl
 | succ n => simp [laneOut, h]
theorem laneOut_goes (cmp : Bool) (a b : ByteArray) (n i : Nat) (h : laneGoes cmp (laneSym a i) (laneSym b i) = true) :
  laneOut cmp a b (n + 1) i = UInt8.ofNat (laneSym a i).toNat :: (if laneSym a i = 35 then [] else laneOut cmp a b n (i + 1)) := by simp [laneOut, h]
theorem laneGoes_in (cmp : Bool) (a b : ByteArray) (i : Nat) (h : laneGoes cmp (laneSym a i) (laneSym b i) = true) : i < a.size := by
 rcases Nat.lt_or_ge i a.size with h1 | h1
 · exact h1
 ·
  have : laneSym a i = 46 := by unfold laneSym; rw [if_neg (by omega)]
  rw [this] at h
  simp [laneGoes] at h
theorem laneGoes_ne (cmp : Bool) (d k : Int) (h : laneGoes cmp d k = true) : d ≠ 46 := by
 rintro rfl
 simp [laneGoes] at h
theorem byteCells_snoc (l : List UInt8) (c : Int) (h0 : 0 ≤ c) (h1 : c ≤ 255) : Lib.byteCells l ++ [.int .u8 c] = Lib.byteCells (l ++ [UInt8.ofNat c.toNat]) := by
 have : ((UInt8.ofNat c.toNat).toNat : Int) = c := by
  rw [UInt8.toNat_ofNat']
  omega
 rw [Lib.byteCells, Lib.byteCells, List.map_append, List.map_cons, List.map_nil, this]
def LaneIs (a0 : Bool) (a1 a2 : ByteArray) (g b : Nat) (w0 : World) (gk i : Nat) (wr : World) : Prop :=
 ∃ (shut : Bool) (acc : List UInt8), IsS38 w0 wr g a0 shut ∧ Lib.IsBuilder 45 5 b b (Lib.byteCells acc) wr ∧ b ≤ wr.heap.size ∧ Below w0.heap.size w0 wr ∧ acc.length ≤ i ∧ i ≤ a1.size ∧ 1 ≤ gk ∧
  acc ++ (if shut = true then [] else laneOut a0 a1 a2 (a1.size + 1 - i) i) = laneOut a0 a1 a2 (a1.size + 1) 0 ∧ (shut = false → a1.size + 1 - i ≤ gk)
set_option maxHeartbeats 4000000 in
set_option maxRecDepth 100000 in
theorem lane_Out.calls (a0 : Bool) (a1 : ByteArray) (a2 : ByteArray) (r : ByteArray) (w : World) (h : lane_Out.f a0 a1 a2 = some r) :
  Calls Try.prog 11 #[.bool a0, .string a1, .string a2] w fun e w' => e = .returned (.string r) ∧ Below w.heap.size w w' := by
 unfold lane_Out.f at h
 by_cases hs : a1.size ≤ 140737488351232
 ·
  rw [if_pos hs] at h
  have HF := Aside0.mk (Option.some.inj h)
  clear h
  go_enter Try.func11, Try.ntmps11
  go_wp2_with fail
  refine (lane_New.calls a0 a0 false w w (Below.refl _ _) rfl).mono ?_
  rintro e w1 ⟨g, rfl, hI, hB, _⟩
  have HI := Aside0.mk hI
  have HB := Aside0.mk hB
  have hg1 : g < w1.heap.size := hI.lt
  have hg2 : w.heap.size ≤ w1.heap.size := hB.size
  clear hI hB
  go_wp2
  have H0 : LaneIs a0 a1 a2 g w1.heap.size w (a1.size + 1) 0 (w1.alloc (.cells #[.pointer none, .slice none 0 0] 45)) :=
   ⟨false, [], HI.out.alloc _, Lib.fresh_isBuilder _ _ w1, by simp, HB.out.alloc HB.out.size _, Nat.le_refl _, by omega, by omega, by simp, fun _ => by omega⟩
  have HL := Aside0.mk H0
  clear H0
  go_loopg [10] (a1.size + 1) (fun gk v10 wr => ∃ i : Nat, v10 = .int .i64 i ∧ Aside0 (LaneIs a0 a1 a2 g w1.heap.size w gk i wr))
  case atStart => exact ⟨0, rfl, HL⟩
  case round =>
   clear HL
   obtain ⟨i, rfl, HL⟩ := hrel
   obtain ⟨shut, acc, hI, hBd, hbs, hBl, hac, hi, hk, hout, hfu⟩ := HL.out
   have HI2 := Aside0.mk hI
   have HBd := Aside0.mk hBd
   have HBl := Aside0.mk hBl
   have HO := Aside0.mk hout
   have HU := Aside0.mk hfu
   clear hI hBd hBl hout hfu HL
   have hr1 := laneSym_range a1 i
   obtain ⟨hd0, hd1⟩ := hr1
   generalize hD : laneSym a1 i = d at *
   generalize hK : laneSym a2 i = kk at *
   have HD := Aside0.mk hD
   have HK := Aside0.mk hK
   clear hD hK
   have A1 := Aside0.mk (lane_at_eq a1 i)
   have A2 := Aside0.mk (lane_at_eq a2 i)
   rw [HD.out] at A1
   rw [HK.out] at A2
   go_wp2_with fail
   refine (lane_at.calls a1 i d _ A1.out).mono ?_
   rintro e w2 ⟨rfl, ⟨n2, rfl⟩⟩
   go_wp2_with fail
   refine (lane_at.calls a2 i kk _ A2.out).mono ?_
   rintro e w3 ⟨rfl, ⟨n3, rfl⟩⟩
   go_wp2_with fail
   have HS := lane_step_eq a0 shut d kk hd0 hd1
   cases hgo : (!shut && laneGoes a0 d kk) with
   | true =>
    rw [hgo, if_pos rfl] at HS
    refine (lane_Lane_Step.calls g a0 shut d kk d a0 (d == 35) w _ (HI2.out.drewN _) (pw_below_drewN HBl.out _) HS).mono ?_
    rintro e w4 ⟨rfl, hI4, hB4, hK4⟩
    have HI4 := Aside0.mk hI4
    have HB4 := Aside0.mk hB4
    have hs4 : wr.heap.size ≤ w4.heap.size := by have := hK4.1; simpa using this
    have HBd4 := Aside0.mk (bld_keep (bld_below HBd.out (pw_below_drewN (Below.refl _ _) _)) hK4 hg1)
    clear hI4 hB4 hK4 HS
    rw [Bool.and_eq_true] at hgo
    obtain ⟨hsh, hgo⟩ := hgo
    have hsh2 : shut = false := by simpa using hsh
    subst hsh2
    have HG := Aside0.mk hgo
    have hne : (d == 46) = false := beq_eq_false_iff_ne.mpr (laneGoes_ne a0 d kk hgo)
    have hlt : i < a1.size := laneGoes_in a0 a1 a2 i (by rw [HD.out, HK.out]; exact hgo)
    clear hgo hsh
    go_wp2_with fail
    refine (bld_WriteByte w1.heap.size w1.heap.size (Lib.byteCells acc) d w4 HBd4.out (by simp [Lib.byteCells]; omega) (by omega)).mono ?_
    rintro e w5 ⟨rfl, hA5, hB5⟩
    have HA5 := Aside0.mk hA5
    have HB5 := Aside0.mk hB5
    clear hA5 hB5
    go_wp2
    go_roundg (gk - 1)
    case measure => omega
    case rel =>
     refine ⟨i + 1, by go_num, ⟨⟨d == 35, acc ++ [UInt8.ofNat d.toNat], ?_, ?_, ?_, ?_, ?_, ?_, ?_, ?_, ?_⟩⟩⟩
     · exact ⟨by rw [HB5.out.block g hg1]; exact HI4.out.1, HI4.out.2⟩
     ·
      rw [← byteCells_snoc acc d hd0 hd1]
      exact .inr HA5.out
     · have := HA5.out.lt; omega
     · exact HB4.out.trans (HB5.out.mono hg2)
     · simp; omega
     · omega
     · have := HU.out (by first | trivial | rfl); omega
     ·
      have h1 := HO.out
      rw [if_neg (by decide), show a1.size + 1 - i = (a1.size - i) + 1 from by omega, laneOut_goes a0 a1 a2 _ i (by rw [HD.out, HK.out]; exact HG.out), HD.out] at h1
      rw [← h1, List.append_assoc, List.singleton_append, show a1.size + 1 - (i + 1) = a1.size - i from by omega]
      by_cases e : d = 35
      · rw [if_pos (beq_iff_eq.mpr e), if_pos e]
      · rw [if_neg (by simpa using e), if_neg e]
     ·
      intro _
      have := HU.out (by first | trivial | rfl)
      omega
   | false =>
    rw [hgo, if_neg (by decide)] at HS
    refine (lane_Lane_Step.calls g a0 shut d kk 46 a0 true w _ (HI2.out.drewN _) (pw_below_drewN HBl.out _) HS).mono ?_
    rintro e w4 ⟨rfl, hI4, hB4, hK4⟩
    have HB4 := Aside0.mk hB4
    have hs4 : wr.heap.size ≤ w4.heap.size := by have := hK4.1; simpa using this
    have HBd4 := Aside0.mk (bld_keep (bld_below HBd.out (pw_below_drewN (Below.refl _ _) _)) hK4 hg1)
    have HG := Aside0.mk hgo
    clear hI4 hB4 hK4 HS hgo
    go_wp2_with fail
    refine (bld_String w1.heap.size w1.heap.size acc w4 HBd4.out (by omega)).mono ?_
    rintro e w5 ⟨rfl, hB5⟩
    have HB5 := Aside0.mk hB5
    clear hB5
    go_wp2
    go_ret
    refine ⟨?_, HB4.out.trans (HB5.out.mono hg2)⟩
    have h1 := HO.out
    have h2 : (if shut = true then [] else laneOut a0 a1 a2 (a1.size + 1 - i) i) = [] := by
     cases shut with
     | true => rfl
     | false =>
      rw [if_neg (by decide)]
      exact laneOut_idle a0 a1 a2 _ i (by rw [HD.out, HK.out]; simpa using HG.out)
    rw [h2, List.append_nil] at h1
    rw [← HF.out, h1]
    rfl
 ·
  rw [if_neg hs] at h
  cases h
end Go.Proofs.Ytcfbmofffipmpaa.P
