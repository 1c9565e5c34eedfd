/- Arguments as they come in, opened: a datum that can be read stands for a value of its kind (numbers, strings, slices, structs, one in another). -/
import Derived.Test.YtcpohmfkmgcjkaaQFrameOtherPx0
import Derived.Deep.Slices
import Derived.ProofKit
import Derived.WideShapes
namespace Go.Proofs.Ytcpohmfkmgcjkaa.P
open Go.RowKit Go.Proofs.YtcpohmfkmgcjkaaW.PrintWords Go.Proofs.YtcpohmfkmgcjkaaW.PrintLast Go.Proofs.YtcpohmfkmgcjkaaW.PrintMore
attribute [local go_sem] max2_int min2_int max_two min_two max_three min_three max_four min_four
set_option linter.unusedVariables false
set_option linter.unusedSimpArgs false
open Go.ChangeShapes Go.WideShapes Go.Deep
theorem list_choose {α : Type} {Q : Nat → α → Prop} : ∀ (n : Nat), (∀ i, i < n → ∃ v, Q i v) → ∃ xs : List α, xs.length = n ∧ ∀ i v, xs[i]? = some v → Q i v
  | 0, _ => ⟨[], rfl, fun i v h => by simp at h⟩
  | n + 1, h => by
    obtain ⟨xs, hl, hx⟩ := list_choose n (fun i hi => h i (by omega))
    obtain ⟨v, hv⟩ := h n (by omega)
    refine ⟨xs ++ [v], by simp [hl], fun i u hu => ?_⟩
    rcases Nat.lt_or_ge i n with hi | hi
    · rw [List.getElem?_append_left (by omega)] at hu
      exact hx i u hu
    · rw [List.getElem?_append_right (by omega)] at hu
      have hi0 : i - xs.length = 0 := by
        rcases Nat.eq_zero_or_pos (i - xs.length) with h0 | h0
        · exact h0
        · rw [List.getElem?_eq_none (by simp; omega)] at hu
          cases hu
      rw [hi0] at hu
      simp at hu
      subst hu
      have : i = n := by omega
      subst this
      exact hv
def Opens {α : Type} (P : Program) (w : World) (t : TypeId) (d : Kd α) (ok : α → Prop) : Prop :=
  ∀ (H : Type) (enc : TypeId × Value → H) (base : Nat) (spare : Nat → Bool) (held : Bool) (fuel : Nat) (cs : List Value) (x : DataW H × List MemPlace), DataW.trod enc P w base spare held fuel t cs = some x → ∃ v, d.K w v cs ∧ ok v
theorem opens_int {P : Program} (w : World) {t : TypeId} {k : IntKind} (ht : P.underlying t = some (.int k)) : Opens P w t (Kd.int k) (fun n => (Lit.int k n).wf = true) := by
  intro H enc base spare held fuel cs x h
  obtain ⟨n, rfl, _, hw⟩ := DataW.trod_int ht h
  exact ⟨n, rfl, hw⟩
theorem opens_slice {α : Type} {P : Program} (w : World) {t e : TypeId} {d : Kd α} {ok : α → Prop} (ht : P.underlying t = some (.slice e)) (hc : P.cellsOf e = d.sz) (he : Opens P w e d ok) :
    Opens P w t (Kd.slice e d) (fun l => l.length ≤ maxLen ∧ ∀ x ∈ l, ok x) := by
  intro H enc base spare held fuel cs x h
  rcases open_slice ht h with ⟨rfl, _⟩ | ⟨a, len, cap, m, n, D, Pl, rfl, hb, hl, hm, hmm, _, hi⟩
  · exact ⟨[], ⟨none, 0, rfl, Nat.le_refl _, ⟨rfl, by simp, fun h0 => absurd h0 (by simp)⟩⟩, by simp, fun x hx => by simp at hx⟩
  · have hlm : len ≤ m := by
      rw [hmm]
      split
      · exact hl
      · exact Nat.le_refl _
    obtain ⟨xs, hxl, hx⟩ := list_choose (Q := fun i v => (∃ cs', cs'.length = d.sz ∧ d.K w v cs' ∧ ∀ j u, cs'[j]? = some u → w.cell? (a.add (i * d.sz + j)) = some u) ∧ ok v) len (fun i hil => by
      obtain ⟨cs', hcs, htr⟩ := hi i (by omega)
      obtain ⟨v, hK, hok⟩ := he H enc base spare held n cs' _ htr
      obtain ⟨_, hcl, hat⟩ := World.cells?_some hcs
      rw [hc] at hcl
      refine ⟨v, ⟨cs', hcl, hK, fun j u hu => ?_⟩, hok⟩
      have hj : j < cs'.length := (List.getElem?_eq_some_iff.1 hu).1
      have h1 := hat j (by omega)
      rw [← Go.Deep.add_add, ← hc, h1, hu])
    have hcm : cap ≤ maxLen := hm
    refine ⟨xs, ⟨some a, cap, by rw [hxl], by omega, ⟨rfl, by unfold maxLen at hm; omega, fun _ => ⟨a, rfl, fun j p hp => ?_⟩⟩⟩, by omega, fun v hv => ?_⟩
    · exact (hx j p hp).1
    · obtain ⟨i, hi', rfl⟩ := List.mem_iff_getElem.1 hv
      exact (hx i _ (List.getElem?_eq_getElem hi')).2
theorem opens_arg {α : Type} {P : Program} {w : World} {t : TypeId} {d : Kd α} {ok : α → Prop} (h : Opens P w t d ok) {H : Type} {enc : TypeId × Value → H} {base : Nat} {spare : Nat → Bool} {held : Bool} {v : Value} {x : DataW H} {p : List MemPlace}
    (hv : DataW.Trod enc P w base spare held t v x p) : ∃ y, d.K w y v.cells.toList ∧ ok y := by
  obtain ⟨fuel, hf⟩ := hv
  exact h H enc base spare held fuel _ _ hf
theorem opens_part {α : Type} {P : Program} {w : World} {t : TypeId} {d : Kd α} {ok : α → Prop} (h : Opens P w t d ok) {H : Type} {enc : TypeId × Value → H} {base : Nat} {spare : Nat → Bool} {held : Bool} {fuel : Nat} {cs : List Value} {x : Option (DataW H × List MemPlace)} {k : Nat}
    (hk : P.cellsOf t = k) {o : Nat} (hx : x.isSome = true) (hv : DataW.trod enc P w base spare held fuel t ((cs.drop o).take (P.cellsOf t)) = x) : ∃ y, d.K w y ((cs.drop o).take k) ∧ ok y := by
  subst hk
  obtain ⟨x, rfl⟩ := Option.isSome_iff_exists.1 hx
  exact h H enc base spare held fuel _ _ hv
end Go.Proofs.Ytcpohmfkmgcjkaa.P
