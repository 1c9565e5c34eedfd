/- The law's end: what path mode says of a law, its calls do; rows of arguments. -/
import Derived.Test.YthihinlamlamhaaEvX
import Derived.Below
namespace Go.Proofs.YthihinlamlamhaaE
open Go Go.RowKit
set_option linter.unusedVariables false

/-- Nothing of ours stands in the world. -/
def e0 (w : World) : En := ⟨fun _ => none, [], w, fun _ => False⟩
theorem sim0 (w : World) : Sim (e0 w) := ⟨fun i j b c d h _ => by simp [e0] at h, fun i b c h => by simp [e0] at h, fun i b c ob h _ => by simp [e0] at h, fun i b c h => by simp [e0] at h, fun b h => h.elim⟩
theorem quiet0 {w : World} {b : Nat} (h : b < w.heap.size) : (e0 w).quiet b := ⟨h, fun o c ob h => by simp [e0] at h⟩
theorem still0 {w : World} {b : Nat} (h : b < w.heap.size) : (e0 w).still b := ⟨quiet0 h, fun h => h⟩

theorem law_ok {P : Program} (hP : okProg P = true) (H : Hints) {g : FuncId} {args : List AV} {cargs : Array Value} {w : World} {v : AV} (hv : VL (e0 w) args cargs.toList)
    (hE : Ev (fun k => run P H k g args []) fun r => r.1 = v) : Calls P g cargs w fun e w' => (∃ cv, e = .returned cv ∧ ∃ E, VR E v cv) ∧ Below w.heap.size w w' := by
  obtain ⟨⟨u, h'⟩, ⟨K, e⟩, hr⟩ := hE
  simp only at hr
  subst hr
  refine (run_ok hP H K g args [] u h' (e K (Nat.le_refl _)) (e0 w) rfl (sim0 w) cargs hv).mono fun en w' hw => ?_
  obtain ⟨cv, ι', he, s, x, wd, hvr⟩ := hw
  exact ⟨⟨cv, he, _, hvr⟩, wd.os, wd.tape, wd.output, wd.size, fun k hk => (x.st k (quiet0 hk)).2⟩
theorem law_true {P : Program} (hP : okProg P = true) (H : Hints) {g : FuncId} {args : List AV} {cargs : Array Value} {w : World} (hv : VL (e0 w) args cargs.toList)
    (hE : Ev (fun k => run P H k g args []) fun r => r.1 = .bool true) : Calls P g cargs w fun e w' => e = .returned (.bool true) ∧ Below w.heap.size w w' :=
  (law_ok hP H hv hE).mono fun e w' ⟨⟨cv, he, E, hvr⟩, b⟩ => ⟨by rw [he]; simp only [VR] at hvr; rw [hvr], b⟩

/-- A cell that holds what it should. -/
theorem rr_of {E : En} {b n : Nat} : ∀ (off : Nat) (rs : List (List AV)), (∀ i j, i < rs.length → j < n → ∃ cv, E.w.cell? ⟨b, off + i * n + j, none⟩ = some cv ∧ cv.oneCell' = true ∧ VR E ((rs.getD i []).getD j .gone) cv) →
    (∀ r ∈ rs, r.length = n) → RR E b n off rs
  | off, [], _, _ => by simp only [RR]
  | off, r :: rs, h, hl => by
    simp only [RR]
    refine ⟨?_, rr_of (off + n) rs (fun i j hi hj => ?_) fun r hr => hl r (by simp [hr])⟩
    · have hr : r.length = n := hl r (by simp)
      have key : ∀ (k : Nat) (l : List AV), (∀ j, j < l.length → ∃ cv, E.w.cell? ⟨b, k + j, none⟩ = some cv ∧ cv.oneCell' = true ∧ VR E (l.getD j .gone) cv) → CR E b k l := by
        intro k l
        induction l generalizing k with
        | nil => intro _; simp only [CR]
        | cons a l ih =>
          intro h
          simp only [CR]
          exact ⟨by simpa using h 0 (by simp), ih (k + 1) fun j hj => by have := h (j + 1) (by simpa using hj); simpa [Nat.add_assoc, Nat.add_comm 1 j] using this⟩
      exact key off r fun j hj => by simpa using h 0 j (by simp) (by omega)
    · have := h (i + 1) j (by simpa using hi) hj
      rw [Nat.succ_mul] at this
      simpa [Nat.add_assoc, Nat.add_comm, Nat.add_left_comm] using this
/-- A row of whole numbers (bytes, too). -/
def irow (k : IntKind) (zs : List Int) : List (List AV) := zs.map fun n => [.int k n]
theorem vr_ints {w : World} {k : IntKind} {a : Option Addr} {len cap : Nat} {zs : List Int}
    (h : (a = none ∧ len = 0 ∧ cap = 0 ∧ zs = []) ∨ ∃ x, a = some x ∧ len ≤ cap ∧ cap ≤ maxLen ∧ zs.length = cap ∧ (∀ i, i < zs.length → w.cell? (x.add i) = some (.int k (zs.getD i 0))) ∧ ∀ n ∈ zs, (Lit.int k n).wf = true)
    : VR (e0 w) (.row a.isNone [.int k] (irow k (zs.take len))) (.slice a len cap) := by
  rcases h with ⟨rfl, rfl, rfl, rfl⟩ | ⟨x, rfl, h1, h2, h3, h4, h5⟩
  · simp only [VR]
    exact ⟨none, 0, by simp [irow], by simp [irow], by simp [maxLen], fun _ => ⟨rfl, rfl⟩, fun h => by simp at h, .inl (by simp [irow])⟩
  · simp only [VR]
    have hl : (irow k (zs.take len)).length = len := by simp [irow]; omega
    refine ⟨some x, cap, by rw [hl], by omega, h2, fun h => by simp at h, fun _ => by simp, ?_⟩
    by_cases h0 : len = 0
    · left; subst h0; simp [irow]
    right
    have hc := h4 0 (by omega)
    obtain ⟨hsp, hb⟩ : x.spot = none ∧ x.block < w.heap.size := by
      have hx : x.add 0 = x := rfl
      rw [hx] at hc
      unfold World.cell? at hc
      split at hc
      · rename_i hh
        refine ⟨?_, (Array.getElem?_eq_some_iff.1 hh).1⟩
        split at hc
        · cases hc
        · rename_i hs; simpa using hs
      · cases hc
    refine ⟨by simp, x.block, x.off, by cases x; simp only at hsp; rw [hsp], still0 hb, fun r hr => ?_, fun r hr => ?_, rr_of _ _ (fun i j hi hj => ?_) fun r hr => ?_⟩
    · simp only [irow, List.mem_map] at hr
      obtain ⟨n, _, rfl⟩ := hr
      exact ⟨rfl, by simp [kOk]⟩
    · simp only [pureR]; rfl
    · rw [hl] at hi
      obtain rfl : j = 0 := by simp at hj; omega
      have := h4 i (by omega)
      refine ⟨.int k (zs.getD i 0), ?_, rfl, ?_⟩
      · rw [← this]
        show w.cell? _ = w.cell? _
        congr 1
        unfold Addr.add
        split
        · rename_i hi0; subst hi0; cases x; simp only at hsp; simp [hsp]
        · simp
      · have hg : (irow k (zs.take len)).getD i [] = [.int k (zs.getD i 0)] := by
          simp only [irow, List.getD_eq_getElem?_getD, List.getElem?_map, List.getElem?_take]
          rw [if_pos hi]
          have : i < zs.length := by omega
          simp [this]
        rw [hg]
        simp only [List.getD_cons_zero, VR]
    · simp only [irow, List.mem_map] at hr
      obtain ⟨n, _, rfl⟩ := hr
      rfl
end Go.Proofs.YthihinlamlamhaaE
