/- Arguments as they come in, opened by types: the interpreter's values that stand for them. -/
import Derived.Test.YthihinlamlamhaaEvY
import Derived.ChangeArms
import Derived.WideShapes
namespace Go.Proofs.YthihinlamlamhaaE
open Go Go.WideShapes
set_option linter.unusedVariables false
set_option linter.unusedSimpArgs false

/-- What opening a value of type t gives. -/
def Op (P : Program) (w : World) (t : TypeId) (A : List AV → Prop) : Prop :=
  ∀ (H : Type) (enc : TypeId × Value → H) (base : Nat) (spare : Nat → Bool) (held : Bool) (fuel : Nat) (cs : List Value) (x : DataW H × List MemPlace),
    DataW.trod enc P w base spare held fuel t cs = some x → ∃ avs, VL (e0 w) avs cs ∧ (∀ c ∈ cs, c.oneCell' = true) ∧ A avs
def AInt (k : IntKind) (l : List AV) : Prop := ∃ n, l = [.int k n] ∧ (Lit.int k n).wf = true
def AStr (l : List AV) : Prop := ∃ s : ByteArray, l = [.str s] ∧ s.size ≤ maxLen
def ARow (sh : List K) (A : List AV → Prop) (l : List AV) : Prop := ∃ nl rs, l = [.row nl sh rs] ∧ rs.length ≤ maxLen ∧ ∀ r ∈ rs, A r
def Parts : List (List AV → Prop) → List AV → Prop
  | [], l => l = []
  | A :: As, l => ∃ a b, l = a ++ b ∧ A a ∧ Parts As b
def Ops (P : Program) (w : World) : List Field → List (List AV → Prop) → Prop
  | [], [] => True
  | f :: fs, A :: As => Op P w f.type A ∧ Ops P w fs As
  | _, _ => False
def layOk (P : Program) : Nat → List Field → Nat → Bool
  | off, [], tot => Nat.beq off tot
  | off, f :: fs, tot => Nat.beq f.offset off && layOk P (off + P.cellsOf f.type) fs tot

section
variable {P : Program} {w : World} {t : TypeId}
theorem op_int {k : IntKind} (ht : P.underlying t = some (.int k)) : Op P w t (AInt k) := fun H enc base spare held fuel cs x h => by
  obtain ⟨n, rfl, _, hw⟩ := DataW.trod_int ht h
  exact ⟨[.int k n], by simp [VL, VR], by simp [Value.oneCell'], n, rfl, hw⟩
theorem op_str (ht : P.underlying t = some .string) : Op P w t AStr := fun H enc base spare held fuel cs x h => by
  obtain ⟨s, rfl, _, hw⟩ := DataW.trod_string ht h
  exact ⟨[.str s], by simp [VL, VR], by simp [Value.oneCell'], s, rfl, hw⟩
theorem VL.append {E : En} : ∀ {a b : List AV} {c d : List Value}, VL E a c → VL E b d → VL E (a ++ b) (c ++ d)
  | [], b, [], d, _, h => h
  | x :: a, b, y :: c, d, h, h2 => by
    simp only [VL] at h
    simp only [List.cons_append, VL]
    exact ⟨h.1, VL.append h.2 h2⟩
  | [], b, _ :: _, d, h, _ => by simp [VL] at h
  | _ :: _, b, [], d, h, _ => by simp [VL] at h
theorem VL.at {E : En} : ∀ {a : List AV} {c : List Value}, VL E a c → ∀ (j : Nat) (cv : Value), c[j]? = some cv → VR E (a.getD j .gone) cv
  | [], [], _, j, cv, hj => by simp at hj
  | x :: a, y :: c, h, 0, cv, hj => by simp only [VL] at h; simp at hj; subst hj; exact h.1
  | x :: a, y :: c, h, j + 1, cv, hj => by simp only [VL] at h; simp only [List.getD_cons_succ]; exact VL.at h.2 j cv (by simpa using hj)
  | [], _ :: _, h, _, _, _ => by simp [VL] at h
  | _ :: _, [], h, _, _, _ => by simp [VL] at h
theorem op_parts {H : Type} {enc : TypeId × Value → H} {base : Nat} {spare : Nat → Bool} {held : Bool} {n : Nat} {cs : List Value} : ∀ (fl : List Field) (As : List (List AV → Prop)) (off : Nat),
    Ops P w fl As → layOk P off fl cs.length = true → (∀ f ∈ fl, ∃ x, DataW.trod enc P w base spare held n f.type ((cs.drop f.offset).take (P.cellsOf f.type)) = some x) →
    ∃ avs, VL (e0 w) avs (cs.drop off) ∧ (∀ c ∈ cs.drop off, c.oneCell' = true) ∧ Parts As avs
  | [], [], off, _, hl, _ => by
    have hl := Nat.eq_of_beq_eq_true hl
    refine ⟨[], ?_, ?_, rfl⟩ <;> simp [hl, VL]
  | f :: fl, A :: As, off, ho, hl, hf => by
    simp only [layOk, Bool.and_eq_true] at hl
    have ho1 : f.offset = off := Nat.eq_of_beq_eq_true hl.1
    obtain ⟨x, hx⟩ := hf f (by simp)
    rw [ho1] at hx
    obtain ⟨a, h1, h2, h3⟩ := ho.1 _ _ _ _ _ _ _ _ hx
    obtain ⟨b, k1, k2, k3⟩ := op_parts fl As (off + P.cellsOf f.type) ho.2 hl.2 fun g hg => hf g (by simp [hg])
    have e : cs.drop off = (cs.drop off).take (P.cellsOf f.type) ++ cs.drop (off + P.cellsOf f.type) := by
      rw [← List.drop_drop]; exact (List.take_append_drop _ _).symm
    refine ⟨a ++ b, ?_, ?_, a, b, rfl, h3, k3⟩
    · rw [e]; exact VL.append h1 k1
    · intro c hc
      rw [e, List.mem_append] at hc
      exact hc.elim (h2 c) (k2 c)
  | [], _ :: _, _, h, _, _ => h.elim
  | _ :: _, [], _, h, _, _ => h.elim
theorem op_struct {fs : Array Field} {As : List (List AV → Prop)} (ht : P.underlying t = some (.struct fs)) (hl : layOk P 0 fs.toList (P.cellsOf t) = true) (ho : Ops P w fs.toList As) : Op P w t (Parts As) :=
  fun H enc base spare held fuel cs x h => by
  obtain ⟨xs, n, _, _, hlen, hxl, hg⟩ := DataW.trod_struct ht h
  have := op_parts (cs := cs) (enc := enc) (base := base) (spare := spare) (held := held) (n := n) fs.toList As 0 ho (by rw [hlen]; exact hl) fun f hf => by
    obtain ⟨i, hi, rfl⟩ := List.mem_iff_getElem.1 hf
    have hi' : i < fs.size := by simpa using hi
    have := hg i fs[i] (by simp [hi'])
    refine ⟨xs[i]'(by omega), ?_⟩
    simp only [Array.getElem_toList]
    rw [this]
    exact List.getElem?_eq_getElem _
  simpa using this
theorem op_slice {e : TypeId} {sh : List K} {A : List AV → Prop} (ht : P.underlying t = some (.slice e)) (hs : P.cellsOf e = sh.length) (h0 : 0 < sh.length) (hA : Op P w e A)
    (hp : ∀ r, A r → rowOk sh r ∧ pureR sh r = true) : Op P w t (ARow sh A) := fun H enc base spare held fuel cs x h => by
  rcases DataW.trod_slice ht h with ⟨rfl, _⟩ | ⟨a, len, cap, elems, rest, n, _, rfl, _, hb, hlc, hcm, hel, hx, _, _⟩
  · refine ⟨[.row true sh []], ?_, by simp [Value.oneCell'], true, [], rfl, by simp, by simp⟩
    simp only [VL, VR, and_true]
    exact ⟨none, 0, by simp, by simp, by simp [maxLen], fun _ => ⟨rfl, rfl⟩, fun h => by simp at h, .inl trivial⟩
  -- each element
  have key : ∀ i, i < len → ∃ ci avs, w.cells? base (a.add (i * sh.length)) sh.length = some ci ∧ VL (e0 w) avs ci ∧ (∀ c ∈ ci, c.oneCell' = true) ∧ A avs := fun i hi => by
    have h1 := hx i hi
    rw [hs, List.getElem?_eq_getElem (by omega)] at h1
    obtain ⟨ci, h2, h3⟩ := Option.bind_eq_some_iff.1 h1
    obtain ⟨avs, h4, h5, h6⟩ := hA _ _ _ _ _ _ _ _ h3
    exact ⟨ci, avs, h2, h4, h5, h6⟩
  obtain ⟨rs, hrl, hr⟩ : ∃ rs : List (List AV), rs.length = len ∧ ∀ i, i < len → ∃ ci, w.cells? base (a.add (i * sh.length)) sh.length = some ci ∧ VL (e0 w) (rs.getD i []) ci ∧ (∀ c ∈ ci, c.oneCell' = true) ∧ A (rs.getD i []) := by
    suffices ∀ m, m ≤ len → ∃ rs : List (List AV), rs.length = m ∧ ∀ i, i < m → ∃ ci, w.cells? base (a.add (i * sh.length)) sh.length = some ci ∧ VL (e0 w) (rs.getD i []) ci ∧ (∀ c ∈ ci, c.oneCell' = true) ∧ A (rs.getD i []) from this len (Nat.le_refl _)
    intro m
    induction m with
    | zero => exact fun _ => ⟨[], rfl, fun i hi => absurd hi (by omega)⟩
    | succ m ih =>
      intro hm
      obtain ⟨rs, hl, hr⟩ := ih (by omega)
      obtain ⟨ci, avs, k1, k2, k3, k4⟩ := key m (by omega)
      refine ⟨rs ++ [avs], by simp [hl], fun i hi => ?_⟩
      by_cases him : i < m
      · have e : (rs ++ [avs]).getD i [] = rs.getD i [] := by simp [List.getD_eq_getElem?_getD, List.getElem?_append_left (show i < rs.length by omega)]
        rw [e]; exact hr i him
      · obtain rfl : i = m := by omega
        have e : (rs ++ [avs]).getD i [] = avs := by simp [List.getD_eq_getElem?_getD, ← hl]
        rw [e]; exact ⟨ci, k1, k2, k3, k4⟩
  have mem : ∀ r ∈ rs, A r := fun r hm => by
    obtain ⟨i, hi, rfl⟩ := List.mem_iff_getElem.1 hm
    obtain ⟨_, _, _, _, h4⟩ := hr i (by omega)
    simpa [List.getD_eq_getElem?_getD, List.getElem?_eq_getElem hi] using h4
  refine ⟨[.row false sh rs], ?_, by simp [Value.oneCell'], false, rs, rfl, by omega, mem⟩
  simp only [VL, VR, and_true]
  refine ⟨some a, cap, by rw [hrl], by omega, hcm, fun h => by simp at h, fun _ => by simp, ?_⟩
  by_cases hl0 : len = 0
  · left; exact List.eq_nil_of_length_eq_zero (by omega)
  right
  have cell : ∀ i, i < len → ∀ j, j < sh.length → ∃ cv, w.cell? ((a.add (i * sh.length)).add j) = some cv ∧ cv.oneCell' = true ∧ VR (e0 w) ((rs.getD i []).getD j .gone) cv := fun i hi j hj => by
    obtain ⟨ci, k1, k2, k3, _⟩ := hr i hi
    unfold World.cells? at k1
    split at k1
    · have hl := mapM_some_length k1
      simp at hl
      have hc := mapM_some_get k1 j j (by simp [hj])
      obtain ⟨cv, hcv⟩ : ∃ cv, ci[j]? = some cv := ⟨_, List.getElem?_eq_getElem (by omega)⟩
      rw [hcv] at hc
      exact ⟨cv, hc, k3 cv (List.mem_of_getElem? hcv), k2.at j cv hcv⟩
    · cases k1
  obtain ⟨cv, hc, _⟩ := cell 0 (by omega) 0 h0
  obtain ⟨hsp, hbl⟩ : a.spot = none ∧ a.block < w.heap.size := by
    have hx : (a.add (0 * sh.length)).add 0 = a := by simp [Addr.add]
    rw [hx] at hc
    unfold World.cell? at hc
    split at hc
    · rename_i hh
      refine ⟨?_, (Array.getElem?_eq_some_iff.1 hh).1⟩
      split at hc
      · cases hc
      · rename_i hs; simpa using hs
    · cases hc
  refine ⟨h0, a.block, a.off, by cases a; simp only at hsp; rw [hsp], still0 hbl, fun r hm => (hp r (mem r hm)).1, fun r hm => (hp r (mem r hm)).2, rr_of _ _ (fun i j hi hj => ?_) fun r hm => (hp r (mem r hm)).1.1⟩
  obtain ⟨cv, h1, h2, h3⟩ := cell i (by omega) j hj
  refine ⟨cv, ?_, h2, h3⟩
  rw [← h1]
  show w.cell? _ = w.cell? _
  congr 1
  cases a
  simp only at hsp
  subst hsp
  unfold Addr.add
  split <;> split <;> simp_all [Nat.add_assoc]

/-- An argument. -/
theorem arg_one {A : List AV → Prop} (h : Op P w t A) {H : Type} {enc : TypeId × Value → H} {base : Nat} {spare : Nat → Bool} {held : Bool} {v : Value} {x : DataW H} {p : List MemPlace}
    (hv : DataW.Trod enc P w base spare held t v x p) (hc : v.cells.toList = [v]) : ∃ a, VR (e0 w) a v ∧ A [a] := by
  obtain ⟨fuel, hf⟩ := hv
  obtain ⟨avs, h1, h2, h3⟩ := h H enc base spare held fuel _ _ hf
  rw [hc] at h1
  match avs, h1 with
  | [a], h1 => simp only [VL, and_true] at h1; exact ⟨a, h1, h3⟩
theorem arg_int {k : IntKind} (ht : P.underlying t = some (.int k)) {W : World} {r : Reach} {b0 : Nat} {H : Type} {enc : TypeId × Value → H} {base : Nat} {spare : Nat → Bool} {held : Bool} {v : Value} {x : DataW H} {p : List MemPlace}
    (ho : Value.okWide P W r b0 t v) (hv : DataW.Trod enc P w base spare held t v x p) : ∃ n, VR (e0 w) (.int k n) v ∧ (Lit.int k n).wf = true := by
  obtain ⟨n, rfl⟩ := okWide_int ht ho
  obtain ⟨a, h1, m, h2, h3⟩ := arg_one (op_int ht) hv rfl
  simp only [List.cons.injEq, and_true] at h2
  subst h2
  exact ⟨m, h1, h3⟩
theorem arg_str (ht : P.underlying t = some .string) {W : World} {r : Reach} {b0 : Nat} {H : Type} {enc : TypeId × Value → H} {base : Nat} {spare : Nat → Bool} {held : Bool} {v : Value} {x : DataW H} {p : List MemPlace}
    (ho : Value.okWide P W r b0 t v) (hv : DataW.Trod enc P w base spare held t v x p) : ∃ s, VR (e0 w) (.str s) v ∧ s.size ≤ maxLen := by
  obtain ⟨n, rfl⟩ := okWide_string ht ho
  obtain ⟨a, h1, m, h2, h3⟩ := arg_one (op_str ht) hv rfl
  simp only [List.cons.injEq, and_true] at h2
  subst h2
  exact ⟨m, h1, h3⟩
theorem arg_slice {e : TypeId} {sh : List K} {A : List AV → Prop} (ht : P.underlying t = some (.slice e)) (h : Op P w t (ARow sh A)) {W : World} {r : Reach} {b0 : Nat} {H : Type} {enc : TypeId × Value → H} {base : Nat} {spare : Nat → Bool} {held : Bool} {v : Value} {x : DataW H} {p : List MemPlace}
    (ho : Value.okWide P W r b0 t v) (hv : DataW.Trod enc P w base spare held t v x p) : ∃ nl rs, VR (e0 w) (.row nl sh rs) v ∧ rs.length ≤ maxLen ∧ ∀ r ∈ rs, A r := by
  obtain ⟨a1, l1, c1, rfl⟩ := okWide_slice ht ho
  obtain ⟨a, h1, nl, rs, h2, h3, h4⟩ := arg_one h hv rfl
  simp only [List.cons.injEq, and_true] at h2
  subst h2
  exact ⟨nl, rs, h1, h3, h4⟩
theorem arg_struct {fs : Array Field} {A : List AV → Prop} (ht : P.underlying t = some (.struct fs)) (h : Op P w t A) {W : World} {r : Reach} {b0 : Nat} {H : Type} {enc : TypeId × Value → H} {base : Nat} {spare : Nat → Bool} {held : Bool} {v : Value} {x : DataW H} {p : List MemPlace}
    (ho : Value.okWide P W r b0 t v) (hv : DataW.Trod enc P w base spare held t v x p) : ∃ cs, VR (e0 w) (.agg cs) v ∧ A cs := by
  obtain ⟨cs, rfl, _⟩ := okWide_struct ht ho
  obtain ⟨fuel, hf⟩ := hv
  obtain ⟨avs, h1, h2, h3⟩ := h H enc base spare held fuel _ _ hf
  refine ⟨avs, ?_, h3⟩
  simp only [VR]
  exact ⟨cs, rfl, h1, h2⟩
theorem rows_ints {k : IntKind} : ∀ (rs : List (List AV)), (∀ r ∈ rs, AInt k r) → ∃ zs, rs = irow k zs ∧ ∀ n ∈ zs, (Lit.int k n).wf = true
  | [], _ => ⟨[], rfl, by simp⟩
  | r :: rs, h => by
    obtain ⟨n, rfl, hw⟩ := h r (by simp)
    obtain ⟨zs, rfl, hz⟩ := rows_ints rs fun r hr => h r (by simp [hr])
    exact ⟨n :: zs, rfl, by simpa using ⟨hw, hz⟩⟩
theorem int_pure {k : IntKind} {r : List AV} (h : AInt k r) : rowOk [.int k] r ∧ pureR [.int k] r = true := by
  obtain ⟨n, rfl, _⟩ := h
  exact ⟨⟨rfl, by simp [kOk]⟩, rfl⟩
end
end Go.Proofs.YthihinlamlamhaaE
