/- Facts carried over draws and new blocks, in short words: the printed proofs of this claim use them. -/
import Derived.Test.YtcpohmfkmgcjkaaQFrameOtherAid
namespace Go.Proofs.Ytcpohmfkmgcjkaa.P
open Go.RowKit Go.Proofs.YtcpohmfkmgcjkaaW.PrintWords Go.Proofs.YtcpohmfkmgcjkaaW.PrintLast Go.Proofs.YtcpohmfkmgcjkaaW.PrintMore
attribute [local go_sem] max2_int min2_int max_two min_two max_three min_three max_four min_four
set_option linter.unusedVariables false
set_option linter.unusedSimpArgs false
theorem pB_ {w W : World} {g : Nat} {o : Obj} (h : w.heap[g]? = some o)
    (f : w.heap[g]? = some o → W.heap[g]? = some o := by intro h_; (with_reducible repeat (first | refine blk_drewN ?_ _ | refine blk_drew ?_ | refine blk_alloc ?_ _)); exact h_) : W.heap[g]? = some o := f h
theorem pR_ {α : Type} {d : Kd α} {e : Nat} {w W : World} {base : Nat} {ok : Nat → Prop} {v : Value} {xs : List α} (h : d.R e w base ok v xs)
    (f : d.R e w base ok v xs → d.R e W base ok v xs := by intro h_; (with_reducible repeat (first | apply Kd.R_alloc | apply Kd.R_drewN | apply Kd.R_drew)); exact h_) : d.R e W base ok v xs := f h
theorem pH_ {B : Nat} {u w W : World} (h : Below B u w)
    (f : Below B u w → Below B u W := by intro h_; repeat (first | (with_reducible first | exact h_ | apply below_alloc | apply pw_below_drewN | apply below_drew1 | refine below_set ?_ (Aside0.out (by assumption))) | exact h_)) : Below B u W := f h
theorem norm2_ {P : Program} {ops : Array Oper} {Q : Exit → Act → World → Prop} {md : Region.Mode} {S : World → Prop} {ds : List Nat} {fuel : Nat} {l : Array Bool} {a a' : Act} {w : World} (h : wpAnyLast P md ops Q S ds fuel l a' w)
    (ha : a = a' := by first | (simp only [putAll, Act.put, List.setIfInBounds_toArray, List.set_cons_zero, List.set_cons_succ]; done) | (simp only [putAll, Act.put, List.setIfInBounds_toArray, List.set_cons_zero, List.set_cons_succ]; rfl)) : wpAnyLast P md ops Q S ds fuel l a w := norm_ ha h
theorem ltB_ {w W : World} {g n : Nat} {o : Obj} (hg : n = W.heap.size) (h : w.heap[g]? = some o)
    (f : w.heap[g]? = some o → W.heap[g]? = some o := by intro h_; (with_reducible repeat (first | refine blk_drewN ?_ _ | refine blk_drew ?_ | refine blk_alloc ?_ _)); exact h_) : g ≠ n := by rw [hg]; exact Nat.ne_of_lt (blk_lt (f h))
end Go.Proofs.Ytcpohmfkmgcjkaa.P
