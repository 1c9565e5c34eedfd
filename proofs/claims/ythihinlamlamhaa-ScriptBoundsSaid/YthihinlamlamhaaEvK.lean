/- Writers: a store, an iterator's step, an append. -/
import Derived.Test.YthihinlamlamhaaEvJ
import Derived.Laws.IdiomCopy
namespace Go.Proofs.YthihinlamlamhaaE
open Go

/-- What no step changes of a world. -/
structure Wd (w w' : World) : Prop where
  os : w'.os = w.os
  tape : w'.tape = w.tape
  output : w'.output = w.output
  size : w.heap.size ≤ w'.heap.size
theorem Wd.refl (w : World) : Wd w w := ⟨rfl, rfl, rfl, Nat.le_refl _⟩
theorem Wd.trans {a b c : World} (h : Wd a b) (k : Wd b c) : Wd a c := ⟨k.os.trans h.os, k.tape.trans h.tape, k.output.trans h.output, Nat.le_trans h.size k.size⟩

section
variable {P : Program} {E : En}

/-- One object is written. -/
theorem mod_ok {o b c : Nat} {ob ob' : AObj} {w' : World} (s : Sim E) (hι : E.ι o = some (b, c)) (ho : E.h[o]? = some ob) (hm : ob.mut = true) (hc : ob.cls = ob'.cls)
    (hl : ∀ md e sh rs md' e' sh' rs', ob = .arr md e sh rs → ob' = .arr md' e' sh' rs' → rs.length = rs'.length)
    (hsz : w'.heap.size = E.w.heap.size) (hw : ∀ b', b' ≠ b → w'.heap[b']? = E.w.heap[b']?) (hob : Ext E ⟨E.ι, E.h.set o ob', w', E.X⟩ → OR ⟨E.ι, E.h.set o ob', w', E.X⟩ b c ob') :
    Sim ⟨E.ι, E.h.set o ob', w', E.X⟩ ∧ Ext E ⟨E.ι, E.h.set o ob', w', E.X⟩ := by
  have hlt : o < E.h.length := (List.getElem?_eq_some_iff.1 ho).1
  have hstill : ∀ b', E.quiet b' → b' ≠ b := fun b' h e => by
    subst e
    have := h.2 o c ob hι ho
    rw [hm] at this; cases this
  have x : Ext E ⟨E.ι, E.h.set o ob', w', E.X⟩ := by
    refine ⟨fun i obi hi => ?_, fun b' h => ⟨⟨by show b' < w'.heap.size; rw [hsz]; exact h.1, fun i ci obi hi hobi => ?_⟩, hw b' (hstill b' h)⟩, fun j _ c h => .inr ⟨j, c, h⟩, by show E.w.heap.size ≤ w'.heap.size; omega, rfl⟩
    · by_cases hio : o = i
      · subst hio
        rw [ho] at hi; cases hi
        exact ⟨ob', by simp [hlt], .inr ⟨hc, fun p hp => hp, hl⟩⟩
      · exact ⟨obi, by simpa [List.getElem?_set, hio] using hi, .inr ⟨rfl, fun p hp => hp, fun _ _ _ _ _ _ _ _ h1 h2 => by rw [h1] at h2; cases h2; rfl⟩⟩
    · by_cases hio : o = i
      · subst hio
        have e : E.ι o = some (b', ci) := hi
        rw [hι] at e; cases e
        exact absurd rfl (hstill _ h)
      · have : E.h[i]? = some obi := by simpa [List.getElem?_set, hio] using hobi
        exact h.2 i ci obi hi this
  refine ⟨⟨s.inj, fun i b' c' hi => ?_, fun i b' c' obi hi hobi => ?_, s.nx, fun b' hb' => (by show b' < w'.heap.size; rw [hsz]; exact s.xlt b' hb')⟩, x⟩
  · have := s.lt i b' c' hi
    exact ⟨by simpa using this.1, by show b' < w'.heap.size; rw [hsz]; exact this.2⟩
  · by_cases hio : o = i
    · subst hio
      have e : E.ι o = some (b', c') := hi
      rw [hι] at e; cases e
      have : ob' = obi := by simpa [hlt] using hobi
      subst this
      exact hob x
    · have h1 : E.h[i]? = some obi := by simpa [List.getElem?_set, hio] using hobi
      refine OR.ext x (hw b' fun e => ?_) obi (s.obj i b' c' obi hi h1)
      subst e
      exact hio (s.inj o i b' c c' hι hi)

theorem setCells_heap {b : Nat} {e : TypeId} {fr : Nat × Nat} : ∀ (vs : List Value) (o k : Nat) (a : Array Value) (w : World), w.heap[b]? = some (.cells a e fr) →
    (w.setCells b (o + k) vs).heap[b]? = some (.cells ((vs.zipIdx k).foldl (fun (cs : Array Value) (p : Value × Nat) => cs.setIfInBounds (o + p.2) p.1) a) e fr) ∧ (w.setCells b (o + k) vs).heap.size = w.heap.size ∧
      (∀ b', b' ≠ b → (w.setCells b (o + k) vs).heap[b']? = w.heap[b']?) ∧ (w.setCells b (o + k) vs).os = w.os ∧ (w.setCells b (o + k) vs).tape = w.tape ∧ (w.setCells b (o + k) vs).output = w.output
  | [], o, k, a, w, h => ⟨by simpa [World.setCells] using h, rfl, fun _ _ => rfl, rfl, rfl, rfl⟩
  | v :: vs, o, k, a, w, h => by
    have h1 : (w.setCell ⟨b, o + k, none⟩ v).heap[b]? = some (.cells (a.setIfInBounds (o + k) v) e fr) := by
      simp [World.setCell, Array.getElem?_modify, h]
    obtain ⟨g1, g2, g3, g4, g5, g6⟩ := setCells_heap vs o (k + 1) _ _ h1
    simp only [World.setCells, List.zipIdx_cons, List.foldl_cons]
    refine ⟨g1, g2.trans (by simp [World.setCell]), fun b' hb' => (g3 b' hb').trans ?_, g4, g5, g6⟩
    simp only [World.setCell, Array.getElem?_modify]
    rw [if_neg (fun e => hb' e.symm)]

/-- Cells of a block are written. -/
theorem stores_ok {b off : Nat} {a : Array Value} {e : TypeId} {lo hi : Nat} (w : World) (vs : List Value) (hb : w.heap[b]? = some (.cells a e (lo, hi))) (hf : off + vs.length ≤ a.size) (h1 : ∀ v ∈ vs, v.oneCell' = true)
    (hno : ∀ i, i < a.size → ¬ (lo ≤ i ∧ i < hi)) :
    ∃ w' a', (storeCells ⟨b, off, none⟩ vs).run P w = .ok () w' ∧ w'.heap[b]? = some (.cells a' e (lo, hi)) ∧ a'.toList = a.toList.take off ++ (vs ++ a.toList.drop (off + vs.length)) ∧ w'.heap.size = w.heap.size ∧
      (∀ b', b' ≠ b → w'.heap[b']? = w.heap[b']?) ∧ w'.os = w.os ∧ w'.tape = w.tape ∧ w'.output = w.output := by
  have hr := run_storeCells_cells (P := P) b off vs 0 w (fun j hj => by rw [cell_of_cells hb]; rw [Array.getElem?_eq_getElem (by omega)]; rfl)
    (fun j hj => by simp only [World.frozen?, hb]; have := hno (off + 0 + j) (by omega); simpa using this) h1
  obtain ⟨g1, g2, g3, g4⟩ := setCells_heap (e := e) (fr := (lo, hi)) vs off 0 a w hb
  have hfold := foldl_set vs off 0 a (by simpa using hf)
  exact ⟨_, _, hr, g1, by simpa using hfold, g2, g3, g4⟩

theorem RR.cells {b n : Nat} : ∀ {rs : List (List AV)} {off : Nat}, (∀ r ∈ rs, r.length = n) → RR E b n off rs → ∀ (j : Nat) (v : AV), rs.flatten[j]? = some v → ∃ cv, E.w.cell? ⟨b, off + j, none⟩ = some cv ∧ cv.oneCell' = true ∧ VR E v cv
  | [], _, _, _, j, v, hv => by simp at hv
  | r :: rs, off, hl, h, j, v, hv => by
    have hr : r.length = n := hl r (by simp)
    simp only [RR] at h
    rw [List.flatten_cons, List.getElem?_append] at hv
    split at hv
    · exact h.1.get j v hv
    · rename_i hj
      have := RR.cells (fun r' hr' => hl r' (by simp [hr'])) h.2 (j - r.length) v hv
      rw [hr, show off + n + (j - n) = off + j from by omega] at this
      exact this

theorem store_ok {t : TypeId} {p v : AV} {cp cv : Value} {h' : List AObj} (s : Sim E) (hp : VR E p cp) (hv : VR E v cv) (h : storeA P E.h t p v = some h') :
    ∃ w', (Instr.storeAt t cp cv).run P E.w = .ok () w' ∧ Sim ⟨E.ι, h', w', E.X⟩ ∧ Ext E ⟨E.ι, h', w', E.X⟩ ∧ Wd E.w w' := by
  unfold storeA at h
  split at h
  · rename_i new hnew
    split at h
    · rename_i hsz'
      obtain ⟨hsz, hpos⟩ := hsz'
      obtain ⟨k1, k2⟩ := cells_ok hv hnew
      have hcl : cv.cells.toList.length = new.length := k1.len.symm
      have hrun : ∀ (b off : Nat) (w' : World), 0 < new.length → (storeCells ⟨b, off, none⟩ cv.cells.toList).run P E.w = .ok () w' → (Instr.storeAt t (.pointer (some ⟨b, off, none⟩)) cv).run P E.w = .ok () w' := fun b off w' hpos hr => by
        have hs := run_size' (P := P) (t := t) (by omega) E.w
        simp only [Array.length_toList] at hcl
        simp [Instr.storeAt, Instr.sureAddr, storeVar, hs, hcl, hsz, hr]
      split at h
      · rename_i o off
        split at h
        · rename_i cs ho
          split at h
          · rename_i hfit
            cases h
            simp only [VR, ho] at hp
            obtain ⟨b, c, hι, rfl⟩ := hp
            obtain ⟨a, e, hb, hcs, h1⟩ := s.obj o b c _ hι ho
            have hasz : a.size = cs.length := by have := hcs.len; simpa using this.symm
            obtain ⟨w', a', g1, g2, g3, g4, g5, g6, g7, g8⟩ := stores_ok (P := P) (off := off) E.w cv.cells.toList hb (by omega) k2 (fun i _ => by omega)
            have hm := mod_ok (w' := w') (ob' := .box (setAll cs off new)) s hι ho rfl rfl (fun _ _ _ _ _ _ _ _ e => by cases e) g4 g5 (fun x => ⟨a', e, g2, by
              rw [g3]; exact VL.ext x _ _ (hcs.setAll k1), fun z hz => by
              rw [g3] at hz
              rw [List.mem_append, List.mem_append] at hz
              rcases hz with hz | hz | hz
              · exact h1 z (List.mem_of_mem_take hz)
              · exact k2 z hz
              · exact h1 z (List.mem_of_mem_drop hz)⟩)
            exact ⟨w', hrun b off w' hpos g1, hm.1, hm.2, g6, g7, g8, by rw [g4]; exact Nat.le_refl _⟩
          · cases h
        · cases h
      · rename_i o i f
        split at h
        · rename_i md e sh rs ho
          split at h
          · rename_i hc
            obtain ⟨hmd, hi, hf, hk⟩ := hc
            cases h
            simp only [VR, ho] at hp
            obtain ⟨b, c, hι, rfl⟩ := hp
            obtain ⟨h0, a, lo, hi2, hb, hasz, hlc, hcm, hrow, hRR, hfr, hno⟩ := s.obj o b c _ hι ho
            have hri : rs.getD i [] = rs[i] := by simp [List.getD_eq_getElem?_getD, List.getElem?_eq_getElem hi]
            have hrl : (rs[i]).length = sh.length := (hrow _ (List.getElem_mem hi)).1
            have hmul : i * sh.length + sh.length ≤ c * sh.length := by rw [← Nat.succ_mul]; exact Nat.mul_le_mul_right _ (by omega)
            obtain ⟨w', a', g1, g2, g3, g4, g5, g6, g7, g8⟩ := stores_ok (P := P) (off := i * sh.length + f) E.w cv.cells.toList hb (by omega) k2 hno
            have hfit2 : i * sh.length + f + cv.cells.toList.length ≤ a.toList.length := by
              have e1 : a.toList.length = a.size := by simp
              rw [hcl, e1, hasz]; omega
            have ha' : a'.size = a.size := by
              have h5 := congrArg List.length g3
              rw [List.length_append, List.length_append, List.length_take, List.length_drop] at h5
              have e1 : a.toList.length = a.size := by simp
              have e2 : a'.toList.length = a'.size := by simp
              omega
            have hnr : rowOk sh (setAll rs[i] f new) := by
              refine ⟨by rw [setAll_len (by omega)]; exact hrl, ?_⟩
              rw [List.all_eq_true]
              intro q hq
              obtain ⟨j, hj⟩ := List.getElem?_of_mem hq
              rw [List.getElem?_zip_eq_some] at hj
              obtain ⟨hj1, hj2⟩ := hj
              unfold setAll at hj2
              rw [setAll_get (by omega)] at hj2
              split at hj2
              · rename_i hjr
                rw [List.all_eq_true] at hk
                refine hk q (List.mem_of_getElem? (i := j - f) ?_)
                rw [List.getElem?_zip_eq_some]
                exact ⟨by rw [List.getElem?_drop, show f + (j - f) = j from by omega]; exact hj1, hj2⟩
              · exact (hrow _ (List.getElem_mem hi)).k hj1 hj2
            have hm := mod_ok (w' := w') (ob' := .arr md e sh (rs.set i (setAll rs[i] f new))) s hι ho (by simp [AObj.mut, hmd]) rfl (fun _ _ _ _ _ _ _ _ e1 e2 => by cases e1; cases e2; simp) g4 g5 (fun x => ⟨h0, a', lo, hi2, g2, by rw [ha', hasz], by simpa using hlc, hcm, fun r hr => by
                rcases List.mem_or_eq_of_mem_set hr with h | h
                · exact hrow r h
                · subst h; exact hnr, RR.of fun j r hr => CR.of fun q u hu => by
                  rw [cell_of_cells g2]
                  have hget : a'[0 + j * sh.length + q]? = (a.toList.take (i * sh.length + f) ++ (cv.cells.toList ++ a.toList.drop (i * sh.length + f + cv.cells.toList.length)))[j * sh.length + q]? := by
                    rw [← g3, Nat.zero_add]; simp
                  rw [hget, setAll_get hfit2]
                  have hql : q < sh.length := by
                    have h6 : r.length = sh.length := by
                      rcases List.mem_or_eq_of_mem_set (List.mem_of_getElem? hr) with h | h
                      · exact (hrow r h).1
                      · subst h; exact hnr.1
                    rw [← h6]; exact (List.getElem?_eq_some_iff.1 hu).1
                  rw [List.getElem?_set] at hr
                  by_cases hij : i = j
                  · subst hij
                    rw [if_pos rfl, if_pos hi] at hr
                    cases hr
                    unfold setAll at hu
                    rw [setAll_get (by omega)] at hu
                    by_cases hqn : f ≤ q ∧ q < f + new.length
                    · rw [if_pos hqn] at hu
                      rw [if_pos (by omega), show i * sh.length + q - (i * sh.length + f) = q - f from by omega]
                      obtain ⟨cu, hcu, h7, h8⟩ := k1.cell k2 hu
                      exact ⟨cu, hcu, h7, VR.ext x _ _ h8⟩
                    · rw [if_neg hqn] at hu
                      rw [if_neg (by omega)]
                      obtain ⟨cu, hcu, h7, h8⟩ := (hRR.get i _ (List.getElem?_eq_getElem hi)).get q u hu
                      rw [cell_of_cells hb] at hcu
                      exact ⟨cu, by simpa using hcu, h7, VR.ext x _ _ h8⟩
                  · rw [if_neg hij] at hr
                    have hne : ¬ (i * sh.length + f ≤ j * sh.length + q ∧ j * sh.length + q < i * sh.length + f + cv.cells.toList.length) := by
                      rw [hcl]
                      intro hh
                      rcases Nat.lt_or_gt_of_ne hij with h9 | h9
                      · have : (i + 1) * sh.length ≤ j * sh.length := Nat.mul_le_mul_right _ h9
                        rw [Nat.succ_mul] at this
                        omega
                      · have : (j + 1) * sh.length ≤ i * sh.length := Nat.mul_le_mul_right _ h9
                        rw [Nat.succ_mul] at this
                        omega
                    rw [if_neg hne]
                    obtain ⟨cu, hcu, h7, h8⟩ := (hRR.get j _ hr).get q u hu
                    rw [cell_of_cells hb] at hcu
                    exact ⟨cu, by simpa using hcu, h7, VR.ext x _ _ h8⟩, hfr, fun k hk' => hno k (by rw [← ha']; exact hk')⟩)
            rw [hri]
            exact ⟨w', hrun b _ w' hpos g1, hm.1, hm.2, g6, g7, g8, by rw [g4]; exact Nat.le_refl _⟩
          · cases h
        · cases h
      · cases h
    · cases h
  · cases h
end
end Go.Proofs.YthihinlamlamhaaE
