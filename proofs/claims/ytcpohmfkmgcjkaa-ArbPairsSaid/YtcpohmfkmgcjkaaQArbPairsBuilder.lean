/- What the calls of strings.Builder do (copyCheck, WriteByte, String), over this program; turned from the kit's own proofs of the same contracts. -/
import Derived.Test.YtcpohmfkmgcjkaaQArbPairsPx0
import Derived.Shelf.Strings.Builder1
namespace Go.Proofs.Ytcpohmfkmgcjkaa.P
open Go.RowKit Go.Proofs.YtcpohmfkmgcjkaaW.PrintWords Go.Proofs.YtcpohmfkmgcjkaaW.PrintLast Go.Proofs.YtcpohmfkmgcjkaaW.PrintMore
attribute [local go_sem] max2_int min2_int max_two min_two max_three min_three max_four min_four
set_option linter.unusedVariables false
set_option linter.unusedSimpArgs false
open Go.Shelf
theorem bld_move {T e : TypeId} {B b : Nat} {bs : List Value} {w w1 : World} (h : Lib.IsBuilder T e B b bs w) (hm : ∀ k, B ≤ k → k < w.heap.size → w1.heap[k]? = w.heap[k]?) : Lib.IsBuilder T e B b bs w1 := by
  have one : ∀ p, Lib.BuilderAt T e B b p bs w → Lib.BuilderAt T e B b p bs w1 := by
    intro p hp
    have hlt := hp.lt
    obtain ⟨hB, v, hbk, hown, hne⟩ := hp
    exact ⟨hB, v, by rw [hm b hB hlt]; exact hbk, own_move hown (fun k hk => hm k (own_base hown k hk) (own_lt hown k hk)), hne⟩
  rcases h with h | h
  · exact .inl (one _ h)
  · exact .inr (one _ h)
theorem bld_below {T e : TypeId} {B b : Nat} {bs : List Value} {w w1 : World} (h : Lib.IsBuilder T e B b bs w) (hb : Below w.heap.size w w1) : Lib.IsBuilder T e B b bs w1 := bld_move h (fun k _ hk => hb.block k hk)
end Go.Proofs.Ytcpohmfkmgcjkaa.P
