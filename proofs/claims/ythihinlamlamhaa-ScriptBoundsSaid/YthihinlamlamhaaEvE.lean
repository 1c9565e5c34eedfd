/- Operations that make something: what is built, and where it stands. -/
import Derived.Test.YthihinlamlamhaaEvD
namespace Go.Proofs.YthihinlamlamhaaE
open Go

section
variable {P : Program} {E : En}

theorem zero_ok {t : TypeId} {z : List AV} (h : zeroA P t = some z) : ∃ i zv, P.info? t = some i ∧ i.zero = some zv ∧ VL E z zv.cells.toList ∧ ∀ x ∈ zv.cells.toList, x.oneCell' = true := by
  unfold zeroA at h
  cases hi : P.info? t with
  | none => simp [hi] at h
  | some i =>
    cases hz : i.zero with
    | none => simp [hi, hz] at h
    | some zv =>
      simp [hi, hz] at h
      have := cells_ok (cst_ok (E := E) zv) h
      exact ⟨i, zv, rfl, hz, this.1, this.2⟩
theorem run_zero {t : TypeId} {i : TypeInfo} {zv : Value} (hi : P.info? t = some i) (hz : i.zero = some zv) (w : World) : (zeroValue t).run P w = .ok zv w := by
  simp [zeroValue, typeInfo, hi, hz]

theorem setAll_len {cs : List AV} {off : Nat} {new : List AV} (h : off + new.length ≤ cs.length) : (setAll cs off new).length = cs.length := by
  unfold setAll; simp; omega
theorem setAll_get {α : Type} {cs : List α} {off : Nat} {new : List α} (h : off + new.length ≤ cs.length) (j : Nat) :
    (cs.take off ++ (new ++ cs.drop (off + new.length)))[j]? = if off ≤ j ∧ j < off + new.length then new[j - off]? else cs[j]? := by
  rw [List.getElem?_append]
  have h1 : (cs.take off).length = off := by simp; omega
  rw [h1]
  split
  · rename_i hj
    rw [if_neg (by omega), List.getElem?_take, if_pos hj]
  · rename_i hj
    rw [List.getElem?_append]
    split
    · rename_i hk
      rw [if_pos (by omega)]
    · rename_i hk
      rw [if_neg (by omega), List.getElem?_drop]
      congr 1
      omega
theorem foldl_set {α : Type} : ∀ (new : List α) (off k : Nat) (a : Array α), off + k + new.length ≤ a.size →
    ((new.zipIdx k).foldl (fun (cs : Array α) (p : α × Nat) => cs.setIfInBounds (off + p.2) p.1) a).toList = a.toList.take (off + k) ++ (new ++ a.toList.drop (off + k + new.length))
  | [], off, k, a, _ => by simp
  | x :: new, off, k, a, h => by
    simp only [List.zipIdx_cons, List.foldl_cons]
    simp only [List.length_cons] at h
    rw [foldl_set new off (k + 1) _ (by simp; omega)]
    apply List.ext_getElem?
    intro j
    have hs : (a.setIfInBounds (off + k) x).toList.length = a.size := by simp
    rw [setAll_get (by rw [hs]; omega), setAll_get (by simp; omega)]
    simp only [List.length_cons, Array.toList_setIfInBounds, List.getElem?_set, Array.length_toList]
    by_cases hj : j = off + k
    · subst hj
      rw [if_neg (by omega), if_pos rfl, if_pos (by omega), if_pos (by omega)]
      simp
    · by_cases h1 : off + (k + 1) ≤ j ∧ j < off + (k + 1) + new.length
      · rw [if_pos h1, if_pos (by omega), show j - (off + k) = j - (off + (k + 1)) + 1 from by omega]
        simp
      · rw [if_neg h1, if_neg (by omega), if_neg (by omega)]
theorem VL.setAll {cs new : List AV} {a b : List Value} {off : Nat} (h : VL E cs a) (k : VL E new b) :
    VL E (setAll cs off new) (a.take off ++ (b ++ a.drop (off + b.length))) := by
  unfold Go.Proofs.YthihinlamlamhaaE.setAll
  rw [← k.len]
  exact (h.take off).app (k.app (h.drop _))

def PV (E : En) : List (Nat × AV) → List (Nat × Value) → Prop
  | [], [] => True
  | (i, v) :: l, (j, c) :: m => i = j ∧ VR E v c ∧ PV E l m
  | _, _ => False
theorem PV.of (ρ : Operand → AV) (σ : Operand → Value) (h : ∀ x, VR E (ρ x) (σ x)) : ∀ l : List (Nat × Operand), PV E (l.map fun p => (p.1, ρ p.2)) (l.map fun p => (p.1, σ p.2))
  | [] => by simp [PV]
  | (i, x) :: l => by simp only [List.map_cons, PV]; exact ⟨trivial, h x, PV.of ρ σ h l⟩

theorem fill_ok (pl : Nat → Option (Nat × Nat)) : ∀ (parts : List (Nat × AV)) (cparts : List (Nat × Value)) (cs cs' : List AV) (a : Array Value), PV E parts cparts → VL E cs a.toList → (∀ x ∈ a.toList, x.oneCell' = true) →
    fillA pl cs parts = some cs' → ∃ a', Instr.fill pl a cparts = some a' ∧ VL E cs' a'.toList ∧ ∀ x ∈ a'.toList, x.oneCell' = true
  | [], [], cs, cs', a, _, h, h1, hf => by simp [fillA] at hf; subst hf; exact ⟨a, rfl, h, h1⟩
  | [], _ :: _, _, _, _, hp, _, _, _ => by simp [PV] at hp
  | _ :: _, [], _, _, _, hp, _, _, _ => by simp [PV] at hp
  | (i, v) :: parts, (j, c) :: cparts, cs, cs', a, hp, h, h1, hf => by
    simp only [PV] at hp
    obtain ⟨rfl, hv, hp⟩ := hp
    simp only [fillA] at hf
    cases hpl : pl i with
    | none => simp [hpl] at hf
    | some q =>
      obtain ⟨off, n⟩ := q
      cases hc : v.cells? with
      | none => simp [hpl, hc] at hf
      | some new =>
        simp only [hpl, hc] at hf
        split at hf
        · rename_i hn
          obtain ⟨k1, k2⟩ := cells_ok hv hc
          have hlen : c.cells.size = new.length := by have := k1.len; simpa using this.symm
          have hl := h.len
          simp at hl
          have hfit : off + c.cells.size ≤ a.size := by omega
          have hfold := foldl_set c.cells.toList off 0 a (by simpa using hfit)
          have hnew : (c.cells.zipIdx.foldl (fun cs (p : Value × Nat) => cs.setIfInBounds (off + p.2) p.1) a).toList = a.toList.take off ++ (c.cells.toList ++ a.toList.drop (off + c.cells.toList.length)) := by
            rw [← Array.foldl_toList, Array.toList_zipIdx]
            simpa using hfold
          obtain ⟨a', h3, h4, h5⟩ := fill_ok pl parts cparts _ cs' (c.cells.zipIdx.foldl (fun cs (p : Value × Nat) => cs.setIfInBounds (off + p.2) p.1) a) hp
            (by rw [hnew]; exact h.setAll k1) (by
              rw [hnew]
              intro x hx
              rw [List.mem_append, List.mem_append] at hx
              rcases hx with hx | hx | hx
              · exact h1 x (List.mem_of_mem_take hx)
              · exact k2 x hx
              · exact h1 x (List.mem_of_mem_drop hx)) hf
          refine ⟨a', ?_, h4, h5⟩
          simp only [Instr.fill, hpl]
          rw [if_neg (by simp; omega)]
          exact h3
        · cases hf

/-- A new object. -/
def NewO (E : En) (v : AV) (obj : AObj) (ix : Nat) (cv : Value) (w' : World) : Prop :=
  ∃ X c, w'.heap = E.w.heap.push X ∧ w'.os = E.w.os ∧ w'.tape = E.w.tape ∧ w'.output = E.w.output ∧
    ∀ E', E'.w.heap[E.w.heap.size]? = some X → E'.ι ix = some (E.w.heap.size, c) → E'.h[ix]? = some obj → Ext E E' → OR E' E.w.heap.size c obj ∧ VR E' v cv

theorem newBox {cs : List AV} {a : Array Value} {e : TypeId} {ix : Nat} (h : VL E cs a.toList) (h1 : ∀ x ∈ a.toList, x.oneCell' = true) {w' : World} (hw : w' = E.w.alloc (.cells a e)) :
    NewO E (.ptr ix 0) (.box cs) ix (.pointer (some ⟨E.w.heap.size, 0, none⟩)) w' := by
  subst hw
  refine ⟨.cells a e, 0, rfl, rfl, rfl, rfl, fun E' hX hι hob x => ⟨⟨a, e, hX, VL.ext x cs _ h, h1⟩, ?_⟩⟩
  simp only [VR, hob]
  exact ⟨_, _, hι, rfl⟩

theorem RR_flat {b n : Nat} : ∀ {rs : List (List AV)} {off : Nat}, (∀ r ∈ rs, r.length = n) →
    (∀ j v, rs.flatten[j]? = some v → ∃ cv, E.w.cell? ⟨b, off + j, none⟩ = some cv ∧ cv.oneCell' = true ∧ VR E v cv) → RR E b n off rs
  | [], _, _, _ => by simp only [RR]
  | r :: rs, off, hl, h => by
    have hr : r.length = n := hl r (by simp)
    simp only [RR]
    refine ⟨CR.of fun i v hv => ?_, RR_flat (fun r' hr' => hl r' (by simp [hr'])) fun j v hv => ?_⟩
    · have hi : i < r.length := (List.getElem?_eq_some_iff.1 hv).1
      exact h i v (by rw [List.flatten_cons, List.getElem?_append, if_pos hi]; exact hv)
    · have := h (n + j) v (by rw [List.flatten_cons, List.getElem?_append, if_neg (by omega), hr, Nat.add_sub_cancel_left]; exact hv)
      rw [show off + n + j = off + (n + j) from by omega]
      exact this
theorem flat_len {n : Nat} : ∀ {rs : List (List AV)}, (∀ r ∈ rs, r.length = n) → rs.flatten.length = rs.length * n
  | [], _ => by simp
  | r :: rs, h => by
    rw [List.flatten_cons, List.length_append, flat_len fun r' hr' => h r' (by simp [hr']), h r (by simp), List.length_cons, Nat.succ_mul]
    omega
theorem flat_set {n : Nat} : ∀ {rs : List (List AV)} {i : Nat} {new : List AV}, (∀ r ∈ rs, r.length = n) → new.length = n → i < rs.length → (rs.set i new).flatten = setAll rs.flatten (i * n) new
  | [], i, new, _, _, hi => by simp at hi
  | r :: rs, 0, new, h, hn, _ => by
    have hr : r.length = n := h r (by simp)
    simp [setAll, hn, ← hr]
  | r :: rs, i + 1, new, h, hn, hi => by
    have hr : r.length = n := h r (by simp)
    rw [List.set_cons_succ, List.flatten_cons, List.flatten_cons, flat_set (fun r' hr' => h r' (by simp [hr'])) hn (by simpa using hi)]
    unfold setAll
    rw [Nat.succ_mul]
    have h1 : (r ++ rs.flatten).take (i * n + n) = r ++ rs.flatten.take (i * n) := by
      rw [List.take_append, hr, show i * n + n - n = i * n from by omega, List.take_of_length_le (by omega)]
    have h2 : (r ++ rs.flatten).drop (i * n + n + new.length) = rs.flatten.drop (i * n + new.length) := by
      rw [List.drop_append, hr, show i * n + n + new.length - n = i * n + new.length from by omega, List.drop_of_length_le (by omega), List.nil_append]
    rw [h1, h2, List.append_assoc]
theorem flat_repl {n : Nat} (z : List AV) (hz : z.length = n) (hn : 0 < n) : ∀ (l j : Nat), j < l * n → ((List.replicate l z).flatten)[j]? = z[j % n]?
  | 0, j, h => by simp at h
  | l + 1, j, h => by
    rw [List.replicate_succ, List.flatten_cons, List.getElem?_append, hz]
    split
    · rename_i hj; rw [Nat.mod_eq_of_lt hj]
    · rename_i hj
      rw [Nat.succ_mul] at h
      rw [flat_repl z hz hn l (j - n) (by omega)]
      congr 1
      conv => rhs; rw [show j = j - n + n from by omega, Nat.add_mod_right]

theorem VL.cell {cs : List AV} {a : List Value} (h : VL E cs a) (h1 : ∀ x ∈ a, x.oneCell' = true) {j : Nat} {v : AV} (hv : cs[j]? = some v) : ∃ c, a[j]? = some c ∧ c.oneCell' = true ∧ VR E v c := by
  obtain ⟨c, hc, hr⟩ := h.get j v hv
  exact ⟨c, hc, h1 c (List.mem_of_getElem? hc), hr⟩

/-- A new slice, whole. -/
theorem newArr {e : TypeId} {sh : List K} {rs : List (List AV)} {a : Array Value} {ix md cap : Nat} {fr : Nat × Nat} (h0 : 0 < sh.length) (hrow : ∀ r ∈ rs, rowOk sh r)
    (hsz : a.size = cap * sh.length) (hlc : rs.length ≤ cap) (hcm : cap ≤ maxLen) (hfr : md = 2 → fr.1 = 0 ∧ fr.2 = 0) (hno : ∀ i, i < a.size → ¬ (fr.1 ≤ i ∧ i < fr.2))
    (hcell : ∀ (j : Nat) (v : AV), rs.flatten[j]? = some v → ∃ c, a[j]? = some c ∧ c.oneCell' = true ∧ VR E v c) {w' : World}
    (hw : w'.heap = E.w.heap.push (.cells a e fr)) (hos : w'.os = E.w.os) (htape : w'.tape = E.w.tape) (hout : w'.output = E.w.output) :
    NewO E (.sl ix 0 rs.length) (.arr md e sh rs) ix (.slice (some ⟨E.w.heap.size, 0, none⟩) rs.length cap) w' := by
  obtain ⟨lo, hi⟩ := fr
  refine ⟨.cells a e (lo, hi), cap, hw, hos, htape, hout, fun E' hX hι hob x => ⟨⟨h0, a, lo, hi, hX, hsz, hlc, hcm, hrow, ?_, hfr, hno⟩, ?_⟩⟩
  · refine RR_flat (fun r hr => (hrow r hr).1) fun j v hv => ?_
    obtain ⟨c, h1, h2, h3⟩ := hcell j v hv
    exact ⟨c, by rw [Nat.zero_add, cell_of_cells hX]; exact h1, h2, VR.ext x v c h3⟩
  · simp only [VR, hob]
    exact ⟨_, _, cap, hι, by simp, hlc, by simp, by simp⟩
end
end Go.Proofs.YthihinlamlamhaaE
