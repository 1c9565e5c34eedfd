/- Writers: a store, an iterator's step, an append. -/
import Derived.Test.YtiemjcchlfbglaaGreatBaA
import Derived.Laws.IdiomCopy
import Derived.Laws.AppendOwn
namespace Go.Proofs.YtiemjcchlfbglaaGreatE
open Go

/-- What no step changes of a world. -/
structure Wd (w w' : World) : Prop where
  os : w'.os = w.os
  tape : w'.tape = w.tape
  output : w'.output = w.output
  size : w.heap.size ≤ w'.heap.size
theorem Wd.refl (w : World) : Wd w w := ⟨rfl, rfl, rfl, Nat.le_refl _⟩
theorem Wd.trans {a b c : World} (h : Wd a b) (k : Wd b c) : Wd a c := ⟨k.os.trans h.os, k.tape.trans h.tape, k.output.trans h.output, Nat.le_trans h.size k.size⟩

section
variable {P : Program} {E : En}

/-- One object is written. -/
theorem mod_ok {o b c : Nat} {ob ob' : AObj} {w' : World} (s : Sim E) (hι : E.ι o = some (b, c)) (ho : E.h[o]? = some ob) (hm : ob.mut = true) (hc : ob.cls = ob'.cls)
    (hl : ∀ md e sh rs md' e' sh' rs', ob = .arr md e sh rs → ob' = .arr md' e' sh' rs' → rs.length = rs'.length)
    (hsz : w'.heap.size = E.w.heap.size) (hw : ∀ b', b' ≠ b → w'.heap[b']? = E.w.heap[b']?) (hob : Ext E ⟨E.ι, E.h.set o ob', w', E.X⟩ → OR ⟨E.ι, E.h.set o ob', w', E.X⟩ b c ob') :
    Sim ⟨E.ι, E.h.set o ob', w', E.X⟩ ∧ Ext E ⟨E.ι, E.h.set o ob', w', E.X⟩ := by
  have hlt : o < E.h.length := (List.getElem?_eq_some_iff.1 ho).1
  have hstill : ∀ b', E.quiet b' → b' ≠ b := fun b' h e => by
    subst e
    have := h.2 o c ob hι ho
    rw [hm] at this; cases this
  have x : Ext E ⟨E.ι, E.h.set o ob', w', E.X⟩ := by
    refine ⟨fun i obi hi => ?_, fun b' h => ⟨⟨by show b' < w'.heap.size; rw [hsz]; exact h.1, fun i ci obi hi hobi => ?_⟩, hw b' (hstill b' h)⟩, fun j _ c h => .inr ⟨j, c, h⟩, by show E.w.heap.size ≤ w'.heap.size; omega, rfl⟩
    · by_cases hio : o = i
      · subst hio
        rw [ho] at hi; cases hi
        exact ⟨ob', by simp [hlt], .inr ⟨hc, fun p hp => hp, hl⟩⟩
      · exact ⟨obi, by simpa [List.getElem?_set, hio] using hi, .inr ⟨rfl, fun p hp => hp, fun _ _ _ _ _ _ _ _ h1 h2 => by rw [h1] at h2; cases h2; rfl⟩⟩
    · by_cases hio : o = i
      · subst hio
        have e : E.ι o = some (b', ci) := hi
        rw [hι] at e; cases e
        exact absurd rfl (hstill _ h)
      · have : E.h[i]? = some obi := by simpa [List.getElem?_set, hio] using hobi
        exact h.2 i ci obi hi this
  refine ⟨⟨s.inj, fun i b' c' hi => ?_, fun i b' c' obi hi hobi => ?_, s.nx, fun b' hb' => (by show b' < w'.heap.size; rw [hsz]; exact s.xlt b' hb')⟩, x⟩
  · have := s.lt i b' c' hi
    exact ⟨by simpa using this.1, by show b' < w'.heap.size; rw [hsz]; exact this.2⟩
  · by_cases hio : o = i
    · subst hio
      have e : E.ι o = some (b', c') := hi
      rw [hι] at e; cases e
      have : ob' = obi := by simpa [hlt] using hobi
      subst this
      exact hob x
    · have h1 : E.h[i]? = some obi := by simpa [List.getElem?_set, hio] using hobi
      refine OR.ext x (hw b' fun e => ?_) obi (s.obj i b' c' obi hi h1)
      subst e
      exact hio (s.inj o i b' c c' hι hi)

theorem setCells_heap {b : Nat} {e : TypeId} {fr : Nat × Nat} : ∀ (vs : List Value) (o k : Nat) (a : Array Value) (w : World), w.heap[b]? = some (.cells a e fr) →
    (w.setCells b (o + k) vs).heap[b]? = some (.cells ((vs.zipIdx k).foldl (fun (cs : Array Value) (p : Value × Nat) => cs.setIfInBounds (o + p.2) p.1) a) e fr) ∧ (w.setCells b (o + k) vs).heap.size = w.heap.size ∧
      (∀ b', b' ≠ b → (w.setCells b (o + k) vs).heap[b']? = w.heap[b']?) ∧ (w.setCells b (o + k) vs).os = w.os ∧ (w.setCells b (o + k) vs).tape = w.tape ∧ (w.setCells b (o + k) vs).output = w.output
  | [], o, k, a, w, h => ⟨by simpa [World.setCells] using h, rfl, fun _ _ => rfl, rfl, rfl, rfl⟩
  | v :: vs, o, k, a, w, h => by
    have h1 : (w.setCell ⟨b, o + k, none⟩ v).heap[b]? = some (.cells (a.setIfInBounds (o + k) v) e fr) := by
      simp [World.setCell, Array.getElem?_modify, h]
    obtain ⟨g1, g2, g3, g4, g5, g6⟩ := setCells_heap vs o (k + 1) _ _ h1
    simp only [World.setCells, List.zipIdx_cons, List.foldl_cons]
    refine ⟨g1, g2.trans (by simp [World.setCell]), fun b' hb' => (g3 b' hb').trans ?_, g4, g5, g6⟩
    simp only [World.setCell, Array.getElem?_modify]
    rw [if_neg (fun e => hb' e.symm)]

/-- Cells of a block are written. -/
theorem stores_ok {b off : Nat} {a : Array Value} {e : TypeId} {lo hi : Nat} (w : World) (vs : List Value) (hb : w.heap[b]? = some (.cells a e (lo, hi))) (hf : off + vs.length ≤ a.size) (h1 : ∀ v ∈ vs, v.oneCell' = true)
    (hno : ∀ i, i < a.size → ¬ (lo ≤ i ∧ i < hi)) :
    ∃ w' a', (storeCells ⟨b, off, none⟩ vs).run P w = .ok () w' ∧ w'.heap[b]? = some (.cells a' e (lo, hi)) ∧ a'.toList = a.toList.take off ++ (vs ++ a.toList.drop (off + vs.length)) ∧ w'.heap.size = w.heap.size ∧
      (∀ b', b' ≠ b → w'.heap[b']? = w.heap[b']?) ∧ w'.os = w.os ∧ w'.tape = w.tape ∧ w'.output = w.output := by
  have hr := run_storeCells_cells (P := P) b off vs 0 w (fun j hj => by rw [cell_of_cells hb]; rw [Array.getElem?_eq_getElem (by omega)]; rfl)
    (fun j hj => by simp only [World.frozen?, hb]; have := hno (off + 0 + j) (by omega); simpa using this) h1
  obtain ⟨g1, g2, g3, g4⟩ := setCells_heap (e := e) (fr := (lo, hi)) vs off 0 a w hb
  have hfold := foldl_set vs off 0 a (by simpa using hf)
  exact ⟨_, _, hr, g1, by simpa using hfold, g2, g3, g4⟩

theorem RR.cells {b n : Nat} : ∀ {rs : List (List AV)} {off : Nat}, (∀ r ∈ rs, r.length = n) → RR E b n off rs → ∀ (j : Nat) (v : AV), rs.flatten[j]? = some v → ∃ cv, E.w.cell? ⟨b, off + j, none⟩ = some cv ∧ cv.oneCell' = true ∧ VR E v cv
  | [], _, _, _, j, v, hv => by simp at hv
  | r :: rs, off, hl, h, j, v, hv => by
    have hr : r.length = n := hl r (by simp)
    simp only [RR] at h
    rw [List.flatten_cons, List.getElem?_append] at hv
    split at hv
    · exact h.1.get j v hv
    · rename_i hj
      have := RR.cells (fun r' hr' => hl r' (by simp [hr'])) h.2 (j - r.length) v hv
      rw [hr, show off + n + (j - n) = off + j from by omega] at this
      exact this

theorem store_ok {t : TypeId} {p v : AV} {cp cv : Value} {h' : List AObj} (s : Sim E) (hp : VR E p cp) (hv : VR E v cv) (h : storeA P E.h t p v = some h') :
    ∃ w', (Instr.storeAt t cp cv).run P E.w = .ok () w' ∧ Sim ⟨E.ι, h', w', E.X⟩ ∧ Ext E ⟨E.ι, h', w', E.X⟩ ∧ Wd E.w w' := by
  unfold storeA at h
  split at h
  · rename_i new hnew
    split at h
    · rename_i hsz'
      obtain ⟨hsz, hpos⟩ := hsz'
      obtain ⟨k1, k2⟩ := cells_ok hv hnew
      have hcl : cv.cells.toList.length = new.length := k1.len.symm
      have hrun : ∀ (b off : Nat) (w' : World), 0 < new.length → (storeCells ⟨b, off, none⟩ cv.cells.toList).run P E.w = .ok () w' → (Instr.storeAt t (.pointer (some ⟨b, off, none⟩)) cv).run P E.w = .ok () w' := fun b off w' hpos hr => by
        have hs := run_size' (P := P) (t := t) (by omega) E.w
        simp only [Array.length_toList] at hcl
        simp [Instr.storeAt, Instr.sureAddr, storeVar, hs, hcl, hsz, hr]
      split at h
      · rename_i o off
        split at h
        · rename_i cs ho
          split at h
          · rename_i hfit
            cases h
            simp only [VR, ho] at hp
            obtain ⟨b, c, hι, rfl⟩ := hp
            obtain ⟨a, e, hb, hcs, h1⟩ := s.obj o b c _ hι ho
            have hasz : a.size = cs.length := by have := hcs.len; simpa using this.symm
            obtain ⟨w', a', g1, g2, g3, g4, g5, g6, g7, g8⟩ := stores_ok (P := P) (off := off) E.w cv.cells.toList hb (by omega) k2 (fun i _ => by omega)
            have hm := mod_ok (w' := w') (ob' := .box (setAll cs off new)) s hι ho rfl rfl (fun _ _ _ _ _ _ _ _ e => by cases e) g4 g5 (fun x => ⟨a', e, g2, by
              rw [g3]; exact VL.ext x _ _ (hcs.setAll k1), fun z hz => by
              rw [g3] at hz
              rw [List.mem_append, List.mem_append] at hz
              rcases hz with hz | hz | hz
              · exact h1 z (List.mem_of_mem_take hz)
              · exact k2 z hz
              · exact h1 z (List.mem_of_mem_drop hz)⟩)
            exact ⟨w', hrun b off w' hpos g1, hm.1, hm.2, g6, g7, g8, by rw [g4]; exact Nat.le_refl _⟩
          · cases h
        · rename_i T cs ho
          split at h
          · rename_i hfit
            cases h
            simp only [VR, ho] at hp
            obtain ⟨b, c, hι, rfl⟩ := hp
            obtain ⟨a, hb, hcs, h1⟩ := s.obj o b c _ hι ho
            have hasz : a.size = cs.length := by have := hcs.len; simpa using this.symm
            obtain ⟨w', a', g1, g2, g3, g4, g5, g6, g7, g8⟩ := stores_ok (P := P) (off := off) E.w cv.cells.toList hb (by omega) k2 (fun i _ => by omega)
            have hm := mod_ok (w' := w') (ob' := .tb T (setAll cs off new)) s hι ho rfl rfl (fun _ _ _ _ _ _ _ _ e => by cases e) g4 g5 (fun x => ⟨a', g2, by
              rw [g3]; exact VL.ext x _ _ (hcs.setAll k1), fun z hz => by
              rw [g3] at hz
              rw [List.mem_append, List.mem_append] at hz
              rcases hz with hz | hz | hz
              · exact h1 z (List.mem_of_mem_take hz)
              · exact k2 z hz
              · exact h1 z (List.mem_of_mem_drop hz)⟩)
            exact ⟨w', hrun b off w' hpos g1, hm.1, hm.2, g6, g7, g8, by rw [g4]; exact Nat.le_refl _⟩
          · cases h
        · cases h
      · rename_i o i f
        split at h
        · rename_i md e sh rs ho
          split at h
          · rename_i hc
            obtain ⟨hmd, hi, hf, hk⟩ := hc
            cases h
            simp only [VR, ho] at hp
            obtain ⟨b, c, hι, rfl⟩ := hp
            obtain ⟨h0, a, lo, hi2, hb, hasz, hlc, hcm, hrow, hRR, hfr, hno⟩ := s.obj o b c _ hι ho
            have hri : rs.getD i [] = rs[i] := by simp [List.getD_eq_getElem?_getD, List.getElem?_eq_getElem hi]
            have hrl : (rs[i]).length = sh.length := (hrow _ (List.getElem_mem hi)).1
            have hmul : i * sh.length + sh.length ≤ c * sh.length := by rw [← Nat.succ_mul]; exact Nat.mul_le_mul_right _ (by omega)
            obtain ⟨w', a', g1, g2, g3, g4, g5, g6, g7, g8⟩ := stores_ok (P := P) (off := i * sh.length + f) E.w cv.cells.toList hb (by omega) k2 hno
            have hfit2 : i * sh.length + f + cv.cells.toList.length ≤ a.toList.length := by
              have e1 : a.toList.length = a.size := by simp
              rw [hcl, e1, hasz]; omega
            have ha' : a'.size = a.size := by
              have h5 := congrArg List.length g3
              rw [List.length_append, List.length_append, List.length_take, List.length_drop] at h5
              have e1 : a.toList.length = a.size := by simp
              have e2 : a'.toList.length = a'.size := by simp
              omega
            have hnr : rowOk sh (setAll rs[i] f new) := by
              refine ⟨by rw [setAll_len (by omega)]; exact hrl, ?_⟩
              rw [List.all_eq_true]
              intro q hq
              obtain ⟨j, hj⟩ := List.getElem?_of_mem hq
              rw [List.getElem?_zip_eq_some] at hj
              obtain ⟨hj1, hj2⟩ := hj
              unfold setAll at hj2
              rw [setAll_get (by omega)] at hj2
              split at hj2
              · rename_i hjr
                rw [List.all_eq_true] at hk
                refine hk q (List.mem_of_getElem? (i := j - f) ?_)
                rw [List.getElem?_zip_eq_some]
                exact ⟨by rw [List.getElem?_drop, show f + (j - f) = j from by omega]; exact hj1, hj2⟩
              · exact (hrow _ (List.getElem_mem hi)).k hj1 hj2
            have hm := mod_ok (w' := w') (ob' := .arr md e sh (rs.set i (setAll rs[i] f new))) s hι ho (by simp [AObj.mut, hmd]) rfl (fun _ _ _ _ _ _ _ _ e1 e2 => by cases e1; cases e2; simp) g4 g5 (fun x => ⟨h0, a', lo, hi2, g2, by rw [ha', hasz], by simpa using hlc, hcm, fun r hr => by
                rcases List.mem_or_eq_of_mem_set hr with h | h
                · exact hrow r h
                · subst h; exact hnr, RR.of fun j r hr => CR.of fun q u hu => by
                  rw [cell_of_cells g2]
                  have hget : a'[0 + j * sh.length + q]? = (a.toList.take (i * sh.length + f) ++ (cv.cells.toList ++ a.toList.drop (i * sh.length + f + cv.cells.toList.length)))[j * sh.length + q]? := by
                    rw [← g3, Nat.zero_add]; simp
                  rw [hget, setAll_get hfit2]
                  have hql : q < sh.length := by
                    have h6 : r.length = sh.length := by
                      rcases List.mem_or_eq_of_mem_set (List.mem_of_getElem? hr) with h | h
                      · exact (hrow r h).1
                      · subst h; exact hnr.1
                    rw [← h6]; exact (List.getElem?_eq_some_iff.1 hu).1
                  rw [List.getElem?_set] at hr
                  by_cases hij : i = j
                  · subst hij
                    rw [if_pos rfl, if_pos hi] at hr
                    cases hr
                    unfold setAll at hu
                    rw [setAll_get (by omega)] at hu
                    by_cases hqn : f ≤ q ∧ q < f + new.length
                    · rw [if_pos hqn] at hu
                      rw [if_pos (by omega), show i * sh.length + q - (i * sh.length + f) = q - f from by omega]
                      obtain ⟨cu, hcu, h7, h8⟩ := k1.cell k2 hu
                      exact ⟨cu, hcu, h7, VR.ext x _ _ h8⟩
                    · rw [if_neg hqn] at hu
                      rw [if_neg (by omega)]
                      obtain ⟨cu, hcu, h7, h8⟩ := (hRR.get i _ (List.getElem?_eq_getElem hi)).get q u hu
                      rw [cell_of_cells hb] at hcu
                      exact ⟨cu, by simpa using hcu, h7, VR.ext x _ _ h8⟩
                  · rw [if_neg hij] at hr
                    have hne : ¬ (i * sh.length + f ≤ j * sh.length + q ∧ j * sh.length + q < i * sh.length + f + cv.cells.toList.length) := by
                      rw [hcl]
                      intro hh
                      rcases Nat.lt_or_gt_of_ne hij with h9 | h9
                      · have : (i + 1) * sh.length ≤ j * sh.length := Nat.mul_le_mul_right _ h9
                        rw [Nat.succ_mul] at this
                        omega
                      · have : (j + 1) * sh.length ≤ i * sh.length := Nat.mul_le_mul_right _ h9
                        rw [Nat.succ_mul] at this
                        omega
                    rw [if_neg hne]
                    obtain ⟨cu, hcu, h7, h8⟩ := (hRR.get j _ hr).get q u hu
                    rw [cell_of_cells hb] at hcu
                    exact ⟨cu, by simpa using hcu, h7, VR.ext x _ _ h8⟩, hfr, fun k hk' => hno k (by rw [← ha']; exact hk')⟩)
            rw [hri]
            exact ⟨w', hrun b _ w' hpos g1, hm.1, hm.2, g6, g7, g8, by rw [g4]; exact Nat.le_refl _⟩
          · cases h
        · cases h
      · cases h
    · cases h
  · cases h
end
end Go.Proofs.YtiemjcchlfbglaaGreatE
/- An iterator's step; append. -/
namespace Go.Proofs.YtiemjcchlfbglaaGreatE
open Go

section
variable {P : Program} {E : En}

theorem next_ok {it v : AV} {ci : Value} {ty : TypeId} {h' : List AObj} (s : Sim E) (hi : VR E it ci) (h : nextA E.h it = some (v, h')) :
    ∃ cv w', (Instr.next ci true ty).run P E.w = .ok cv w' ∧ Sim ⟨E.ι, h', w', E.X⟩ ∧ Ext E ⟨E.ι, h', w', E.X⟩ ∧ Wd E.w w' ∧ VR ⟨E.ι, h', w', E.X⟩ v cv := by
  unfold nextA at h
  split at h
  · rename_i o
    split at h
    · rename_i s0 pos ho
      simp only [VR, ho] at hi
      obtain ⟨b, c, hι, rfl⟩ := hi
      have hb : E.w.heap[b]? = some (.stringIter s0 pos) := s.obj o b c _ hι ho
      have hlt : b < E.w.heap.size := (Array.getElem?_eq_some_iff.1 hb).1
      split at h
      · rename_i hpos
        cases h
        refine ⟨.tuple #[.bool true, .int .i64 pos, .int .i32 (Utf8.decode s0 pos).1], { E.w with heap := E.w.heap.setIfInBounds b (.stringIter s0 (pos + (Utf8.decode s0 pos).2)) }, ?_, ?_⟩
        · simp [Instr.next, getObj, setObj, Sem.run, hb, hpos, goInt]
        · have hm := mod_ok (w' := { E.w with heap := E.w.heap.setIfInBounds b (.stringIter s0 (pos + (Utf8.decode s0 pos).2)) }) (ob' := .iter s0 (pos + (Utf8.decode s0 pos).2)) s hι ho rfl rfl (fun _ _ _ _ _ _ _ _ e => by cases e) (by simp) (fun b' hb' => by simp [Ne.symm hb'])
            (fun _ => by simp [OR, hlt])
          exact ⟨hm.1, hm.2, ⟨rfl, rfl, rfl, by simp⟩, by simp [VR, VL]⟩
      · rename_i hpos
        cases h
        refine ⟨.tuple #[.bool false], E.w, ?_, s, Ext.refl E, Wd.refl _, by simp [VR, VL]⟩
        simp [Instr.next, getObj, Sem.run, hb, hpos]
    · cases h
  · cases h

/-- What an append reads. -/
theorem rows_ok {sh : List K} {x : AV} {cx : Value} {news : List (List AV)} (s : Sim E) (hx : VR E x cx) (h0 : 0 < sh.length) (h : rowsOf E.h sh x = some news) :
    ∃ arr : Array Value, (Builtin.lenOf cx).run P E.w = .ok news.length E.w ∧ (∀ w', w'.heap = E.w.heap → (Builtin.firstCells sh.length news.length cx).run P w' = .ok arr w') ∧
      VL E news.flatten arr.toList ∧ (∀ z ∈ arr.toList, z.oneCell' = true) ∧ ∀ r ∈ news, rowOk sh r := by
  have slice : ∀ (b off cap : Nat) (rs : List (List AV)), (∀ r ∈ rs, rowOk sh r) → RR E b sh.length off rs → ∃ arr : Array Value, (Builtin.lenOf (.slice (some ⟨b, off, none⟩) rs.length cap)).run P E.w = .ok rs.length E.w ∧
      (∀ w', w'.heap = E.w.heap → (Builtin.firstCells sh.length rs.length (.slice (some ⟨b, off, none⟩) rs.length cap)).run P w' = .ok arr w') ∧ VL E rs.flatten arr.toList ∧ (∀ z ∈ arr.toList, z.oneCell' = true) ∧ ∀ r ∈ rs, rowOk sh r := by
    intro b off cap rs hrow hRR
    have hc := RR.cells (fun r hr => (hrow r hr).1) hRR
    obtain ⟨l, h1, h2, _, h4⟩ := cells_at (P := P) (w := E.w) hc
    refine ⟨l.toArray, rfl, fun w' hw' => ?_, by simpa using h1, by simpa using h2, hrow⟩
    refine run_firstCells_some w' sh.length rs.length _ _ cap l ?_ fun j v hv => ?_
    · rw [← h1.len, flat_len fun r hr => (hrow r hr).1]
    · rw [Addr.add_lit]
      have := h4 j v hv
      simp only [World.cell?, hw'] at this ⊢
      exact this
  unfold rowsOf at h
  cases x <;> simp only at h <;> try (cases h; done)
  case str t =>
    split at h
    · rename_i hsh
      cases h; subst hsh
      simp only [VR] at hx; subst hx
      have hl : (bytesRows t.data.toList).length = t.size := by simp [bytesRows]
      have hflat : (bytesRows t.data.toList).flatten = t.data.toList.map fun b => AV.int .u8 b.toNat := by
        unfold bytesRows
        induction t.data.toList with
        | nil => rfl
        | cons b l ih => simp [ih]
      refine ⟨t.data.map fun b => .int .u8 b.toNat, by simp [Builtin.lenOf, hl], fun w' _ => ?_, ?_, ?_, ?_⟩
      · rw [hl]
        have : t.extract 0 t.size = t := by simp
        simp [Builtin.firstCells, this]
      · rw [hflat]
        refine VL.of (by simp) fun i v c hv hc => ?_
        rw [List.getElem?_map] at hv
        have hc' : (t.data.toList.map fun b => Value.int .u8 b.toNat)[i]? = some c := by simpa using hc
        rw [List.getElem?_map] at hc'
        cases hb : t.data.toList[i]? with
        | none => simp [hb] at hv
        | some b => simp [hb] at hv hc'; subst hv; subst hc'; simp [VR]
      · intro z hz
        simp at hz
        obtain ⟨b, _, rfl⟩ := hz
        rfl
      · intro r hr
        simp [bytesRows] at hr
        obtain ⟨b, _, rfl⟩ := hr
        exact ⟨rfl, by simp [kOk]⟩
    · cases h
  case nils =>
    cases h
    simp only [VR] at hx; subst hx
    exact ⟨#[], rfl, fun w' _ => by simp [Builtin.firstCells], by simp [VL], by simp, by simp⟩
  case row nl sh' rs =>
    split at h
    · rename_i hsh
      cases h; subst hsh
      simp only [VR] at hx
      obtain ⟨a, cap, rfl, _, _, _, _, hrest⟩ := hx
      rcases hrest with rfl | ⟨_, b, off, rfl, _, hrow, _, hRR⟩
      · refine ⟨#[], rfl, fun w' _ => ?_, by simp [VL], by simp, by simp⟩
        cases a <;> simp [Builtin.firstCells, loadCells, loadCellsFrom]
      · exact slice b off cap _ hrow hRR
    · cases h
  case sl o off len =>
    split at h
    · rename_i md e sh' rs ho
      split at h
      · rename_i hc
        obtain ⟨rfl, hol⟩ := hc
        cases h
        simp only [VR, ho] at hx
        obtain ⟨b, c, cap, hι, rfl, _, _, _⟩ := hx
        obtain ⟨_, a, lo, hi, hb, hsz, hlc, hcm, hrow, hRR, _⟩ := s.obj o b c _ hι ho
        have hlen : ((rs.drop off).take len).length = len := by simp; omega
        have := slice b (off * sh'.length) cap ((rs.drop off).take len) (fun r hr => hrow r (List.mem_of_mem_drop (List.mem_of_mem_take hr))) (by
          have h5 := (hRR.drop off).take len
          rw [Nat.zero_add] at h5
          exact h5)
        rw [hlen] at this
        rw [hlen]
        exact this
      · cases h
    · cases h

theorem app_room {st xt e ty : TypeId} {d : TypeDesc} {i : TypeInfo} {base : Option Addr} {sLen sCap n : Nat} {cx : Value} {arr : Array Value} {w : World} (hu : P.underlying st = some (.slice e)) (hx : P.underlying xt = some d) (hd : (∃ e', d = .slice e') ∨ d = .string)
    (hi : P.info? e = some i) (hl : (Builtin.lenOf cx).run P w = .ok n w) (hf : (Builtin.firstCells i.size n cx).run P w = .ok arr w) (hr : sLen + n ≤ sCap) :
    (Builtin.append_ #[st, xt] ty #[.slice base sLen sCap, cx]).run P w =
      match base with
      | some a => ((storeCells (a.add (sLen * i.size)) arr.toList).run P w).andThen fun _ w' => .ok (.slice base (sLen + n) sCap) w'
      | none => .ok (.slice none (sLen + n) sCap) w := by
  rcases hd with ⟨e', rfl⟩ | rfl <;> cases base <;> simp [Builtin.append_, run_underlying hu, run_underlying hx, sizeOf, typeInfo, hi, hl, hf, hr]
theorem app_grow {st xt e ty : TypeId} {d : TypeDesc} {i : TypeInfo} {z : Value} {base : Option Addr} {sLen sCap n : Nat} {cx : Value} {olds arr : Array Value} {w : World} (hu : P.underlying st = some (.slice e)) (hx : P.underlying xt = some d) (hd : (∃ e', d = .slice e') ∨ d = .string)
    (hi : P.info? e = some i) (hz : i.zero = some z) (hl : (Builtin.lenOf cx).run P w = .ok n w) (ho : (Builtin.firstCells i.size sLen (.slice base sLen sCap)).run P w.drew = .ok olds w.drew) (hf : (Builtin.firstCells i.size n cx).run P w.drew = .ok arr w.drew)
    (hr : sCap < sLen + n) (h63 : ((sLen + n : Nat) : Int) ≤ 9223372036854775807) (hfit : Builtin.nextslicecap (sLen + n) sCap * i.bytes ≤ 281474976710656) :
    (Builtin.append_ #[st, xt] ty #[.slice base sLen sCap, cx]).run P w =
      .ok (.slice (some ⟨w.heap.size, 0, none⟩) (sLen + n) (grownCap w (sLen + n) sCap e)) (w.drew.alloc (.cells (olds ++ arr ++ Builtin.zeroCells z.cells (grownCap w (sLen + n) sCap e - (sLen + n))) e)) := by
  have hn : ¬ (sLen + n ≤ sCap) := by omega
  have h63' : ¬ (9223372036854775807 < ((sLen : Int) + (n : Int))) := by omega
  have h48' : ¬ (281474976710656 < Builtin.nextslicecap (sLen + n) sCap * i.bytes) := by omega
  rcases hd with ⟨e', rfl⟩ | rfl <;> simp [Builtin.append_, run_underlying hu, run_underlying hx, sizeOf, typeInfo, zeroValue, hi, hz, hl, ho, hf, hn, h63', h48', Question.forced, newRow, grownCap]
theorem app_room_int {st xt e ty : TypeId} {k : IntKind} {i : TypeInfo} {z : Value} {base : Option Addr} {sLen sCap n : Nat} {w : World} (hu : P.underlying st = some (.slice e)) (hx : P.underlying xt = some (.int k))
    (hi : P.info? e = some i) (hz : i.zero = some z) (hs : z.cells.size = i.size) (hn : (n : Int) ≤ 140737488355328) (hb : (n : Int) * (i.bytes : Int) ≤ 140737488355328) (hr : sLen + n ≤ sCap) :
    (Builtin.append_ #[st, xt] ty #[.slice base sLen sCap, .int .i64 n]).run P w =
      match base with
      | some a => ((storeCells (a.add (sLen * i.size)) (madeCells z.cells (n * i.size)).toList).run P w).andThen fun _ w' => .ok (.slice base (sLen + n) sCap) w'
      | none => .ok (.slice none (sLen + n) sCap) w := by
  have hneg : ¬ ((n : Int) < 0) := by omega
  have hw : IntKind.i64.wrap (n : Int) = n := IntWalk.i64_in _ ⟨by omega, by omega⟩
  have h48 : ¬ (281474976710656 < (n : Int) * (i.bytes : Int)) := by omega
  by_cases h0 : n * i.size = 0
  · have e0 : (madeCells z.cells (n * i.size)).toList = [] := by rw [h0]; simp [madeCells]
    rw [e0]
    cases base <;> simp [Builtin.append_, run_underlying hu, run_underlying hx, sizeOf, typeInfo, hi, asInt, asIntOf, hw, hneg, h48, hr, h0]
  · have e0 : Builtin.zeroCells z.cells n = madeCells z.cells (n * i.size) := by unfold Builtin.zeroCells madeCells; rw [hs]
    cases base <;> simp [Builtin.append_, run_underlying hu, run_underlying hx, sizeOf, typeInfo, zeroValue, hi, hz, asInt, asIntOf, hw, hneg, h48, hr, h0, e0]
theorem app_grow_int {st xt e ty : TypeId} {k : IntKind} {i : TypeInfo} {z : Value} {base : Option Addr} {sLen sCap n : Nat} {olds : Array Value} {w : World} (hu : P.underlying st = some (.slice e)) (hx : P.underlying xt = some (.int k))
    (hi : P.info? e = some i) (hz : i.zero = some z) (hs : z.cells.size = i.size) (hn : (n : Int) ≤ 140737488355328) (hb : (n : Int) * (i.bytes : Int) ≤ 140737488355328)
    (ho : (Builtin.firstCells i.size sLen (.slice base sLen sCap)).run P w.drew = .ok olds w.drew)
    (hr : sCap < sLen + n) (h63 : ((sLen + n : Nat) : Int) ≤ 9223372036854775807) (hfit : Builtin.nextslicecap (sLen + n) sCap * i.bytes ≤ 281474976710656) :
    (Builtin.append_ #[st, xt] ty #[.slice base sLen sCap, .int .i64 n]).run P w =
      .ok (.slice (some ⟨w.heap.size, 0, none⟩) (sLen + n) (grownCap w (sLen + n) sCap e)) (w.drew.alloc (.cells (olds ++ madeCells z.cells (n * i.size) ++ Builtin.zeroCells z.cells (grownCap w (sLen + n) sCap e - (sLen + n))) e)) := by
  have hneg : ¬ ((n : Int) < 0) := by omega
  have hw : IntKind.i64.wrap (n : Int) = n := IntWalk.i64_in _ ⟨by omega, by omega⟩
  have h48 : ¬ (281474976710656 < (n : Int) * (i.bytes : Int)) := by omega
  have hn' : ¬ (sLen + n ≤ sCap) := by omega
  have h63' : ¬ (9223372036854775807 < ((sLen : Int) + (n : Int))) := by omega
  have h48' : ¬ (281474976710656 < Builtin.nextslicecap (sLen + n) sCap * i.bytes) := by omega
  by_cases h0 : n * i.size = 0
  · have e0 : madeCells z.cells (n * i.size) = #[] := by rw [h0]; simp [madeCells]
    rw [e0]
    simp [Builtin.append_, run_underlying hu, run_underlying hx, sizeOf, typeInfo, zeroValue, hi, hz, asInt, asIntOf, hw, hneg, h48, ho, hn', h63', h48', h0, Question.forced, newRow, grownCap]
  · have e0 : Builtin.zeroCells z.cells n = madeCells z.cells (n * i.size) := by unfold Builtin.zeroCells madeCells; rw [hs]
    simp [Builtin.append_, run_underlying hu, run_underlying hx, sizeOf, typeInfo, zeroValue, hi, hz, asInt, asIntOf, hw, hneg, h48, ho, hn', h63', h48', h0, e0, Question.forced, newRow, grownCap]
end
end Go.Proofs.YtiemjcchlfbglaaGreatE
/- Append; a new object. -/
namespace Go.Proofs.YtiemjcchlfbglaaGreatE
open Go

def upd (ι : Nat → Option (Nat × Nat)) (i : Nat) (p : Option (Nat × Nat)) : Nat → Option (Nat × Nat) := fun j => if j = i then p else ι j

section
variable {P : Program} {E : En}

theorem new_ok {ix : Nat} {ob : AObj} {v : AV} {cv : Value} {w' : World} (s : Sim E) (hn : NewO E v ob ix cv w') (h' : List AObj) (hh : ∀ i, i ≠ ix → h'[i]? = E.h[i]?) (hix : h'[ix]? = some ob) (hfree : E.ι ix = none)
    (hold : E.h[ix]? = none ∨ E.h[ix]? = some ob) : ∃ c, Sim ⟨upd E.ι ix (some (E.w.heap.size, c)), h', w', E.X⟩ ∧ Ext E ⟨upd E.ι ix (some (E.w.heap.size, c)), h', w', E.X⟩ ∧ Wd E.w w' ∧ VR ⟨upd E.ι ix (some (E.w.heap.size, c)), h', w', E.X⟩ v cv := by
  obtain ⟨X, c, hw, hos, htape, hout, hmade⟩ := hn
  refine ⟨c, ?_⟩
  have hheap : ∀ b, b < E.w.heap.size → w'.heap[b]? = E.w.heap[b]? := fun b hb => by rw [hw, Array.getElem?_push, if_neg (by omega)]
  have x : Ext E ⟨upd E.ι ix (some (E.w.heap.size, c)), h', w', E.X⟩ := by
    refine ⟨fun i obi hi => ?_, fun b hb => ⟨⟨by show b < w'.heap.size; rw [hw]; simp; exact Nat.lt_succ_of_lt hb.1, fun i ci obi hi hobi => ?_⟩, hheap b hb.1⟩, fun j b c' hj => ?_, by show E.w.heap.size ≤ w'.heap.size; rw [hw]; simp, rfl⟩
    · by_cases hii : i = ix
      · subst hii
        rcases hold with ho | ho
        · rw [ho] at hi; cases hi
        · rw [ho] at hi; cases hi
          exact ⟨ob, hix, .inr ⟨rfl, fun p hp => (by rw [hfree] at hp; cases hp), fun _ _ _ _ _ _ _ _ e1 e2 => by rw [e1] at e2; cases e2; rfl⟩⟩
      · exact ⟨obi, (hh i hii).trans hi, .inr ⟨rfl, fun p hp => by show upd E.ι ix _ i = some p; rw [upd, if_neg hii]; exact hp, fun _ _ _ _ _ _ _ _ e1 e2 => by rw [e1] at e2; cases e2; rfl⟩⟩
    · by_cases hii : i = ix
      · subst hii
        have : upd E.ι i (some (E.w.heap.size, c)) i = some (b, ci) := hi
        rw [upd, if_pos rfl] at this
        cases this
        exact absurd hb.1 (Nat.lt_irrefl _)
      · have h1 : upd E.ι ix (some (E.w.heap.size, c)) i = some (b, ci) := hi
        rw [upd, if_neg hii] at h1
        exact hb.2 i ci obi h1 ((hh i hii).symm.trans hobi)
    · have hj : upd E.ι ix (some (E.w.heap.size, c)) j = some (b, c') := hj
      unfold upd at hj
      split at hj
      · cases hj; exact .inl (Nat.le_refl _)
      · exact .inr ⟨j, c', hj⟩
  have hm := hmade ⟨upd E.ι ix (some (E.w.heap.size, c)), h', w', E.X⟩ (by show w'.heap[E.w.heap.size]? = _; rw [hw]; simp) (by show upd _ _ _ _ = _; rw [upd, if_pos rfl]) hix x
  refine ⟨⟨fun i j b c1 c2 hi hj => ?_, fun i b c1 hi => ?_, fun i b c1 obi hi hobi => ?_, fun i b c1 hi hX => ?_, fun b hX => ?_⟩, x, ⟨hos, htape, hout, by rw [hw]; simp⟩, hm.2⟩
  · have hi : upd E.ι ix (some (E.w.heap.size, c)) i = some (b, c1) := hi
    have hj : upd E.ι ix (some (E.w.heap.size, c)) j = some (b, c2) := hj
    unfold upd at hi hj
    split at hi <;> split at hj
    · rename_i e1 e2; rw [e1, e2]
    · cases hi; exact absurd (s.lt j _ _ hj).2 (Nat.lt_irrefl _)
    · cases hj; exact absurd (s.lt i _ _ hi).2 (Nat.lt_irrefl _)
    · exact s.inj i j b c1 c2 hi hj
  · have hi : upd E.ι ix (some (E.w.heap.size, c)) i = some (b, c1) := hi
    unfold upd at hi
    have hsz : w'.heap.size = E.w.heap.size + 1 := by rw [hw]; simp
    split at hi
    · rename_i e; cases hi; subst e
      exact ⟨(List.getElem?_eq_some_iff.1 hix).1, by show E.w.heap.size < w'.heap.size; omega⟩
    · rename_i e
      have := s.lt i b c1 hi
      have h1 : E.h[i]? = some E.h[i] := List.getElem?_eq_getElem this.1
      rw [← hh i e] at h1
      exact ⟨(List.getElem?_eq_some_iff.1 h1).1, by show b < w'.heap.size; omega⟩
  · have hi : upd E.ι ix (some (E.w.heap.size, c)) i = some (b, c1) := hi
    unfold upd at hi
    split at hi
    · rename_i e; cases hi; subst e
      have : some ob = some obi := hix.symm.trans hobi
      cases this
      exact hm.1
    · rename_i e
      exact OR.ext x (hheap b (s.lt i b c1 hi).2) obi (s.obj i b c1 obi hi ((hh i e).symm.trans hobi))
  · have hi : upd E.ι ix (some (E.w.heap.size, c)) i = some (b, c1) := hi
    unfold upd at hi
    split at hi
    · cases hi; exact absurd (s.xlt _ hX) (Nat.lt_irrefl _)
    · exact s.nx i b c1 hi hX
  · show b < w'.heap.size
    rw [hw]; simp; exact Nat.lt_succ_of_lt (s.xlt b hX)

/-- An object dies. -/
theorem kill_ok {o : Nat} {md : Nat} {e : TypeId} {sh : List K} {rs : List (List AV)} (s : Sim E) (ho : E.h[o]? = some (.arr md e sh rs)) :
    Sim ⟨upd E.ι o none, E.h.set o .dead, E.w, E.X⟩ ∧ Ext E ⟨upd E.ι o none, E.h.set o .dead, E.w, E.X⟩ := by
  have hlt : o < E.h.length := (List.getElem?_eq_some_iff.1 ho).1
  have x : Ext E ⟨upd E.ι o none, E.h.set o .dead, E.w, E.X⟩ := by
    refine ⟨fun i obi hi => ?_, fun b hb => ⟨⟨hb.1, fun i ci obi hi hobi => ?_⟩, rfl⟩, fun j b c' hj => ?_, Nat.le_refl _, rfl⟩
    · by_cases hio : o = i
      · subst hio; exact ⟨.dead, by simp [hlt], .inl rfl⟩
      · exact ⟨obi, by simpa [List.getElem?_set, hio] using hi, .inr ⟨rfl, fun p hp => by show upd E.ι o none i = some p; rw [upd, if_neg (Ne.symm hio)]; exact hp, fun _ _ _ _ _ _ _ _ e1 e2 => by rw [e1] at e2; cases e2; rfl⟩⟩
    · have h1 : upd E.ι o none i = some (b, ci) := hi
      unfold upd at h1
      split at h1
      · cases h1
      · rename_i hio
        exact hb.2 i ci obi h1 (by simpa [List.getElem?_set, Ne.symm hio] using hobi)
    · have hj : upd E.ι o none j = some (b, c') := hj
      unfold upd at hj
      split at hj
      · cases hj
      · exact .inr ⟨j, c', hj⟩
  refine ⟨⟨fun i j b c1 c2 hi hj => ?_, fun i b c1 hi => ?_, fun i b c1 obi hi hobi => ?_, fun i b c1 hi hX => ?_, s.xlt⟩, x⟩
  · have hi : upd E.ι o none i = some (b, c1) := hi
    have hj : upd E.ι o none j = some (b, c2) := hj
    unfold upd at hi hj
    split at hi
    · cases hi
    · split at hj
      · cases hj
      · exact s.inj i j b c1 c2 hi hj
  · have hi : upd E.ι o none i = some (b, c1) := hi
    unfold upd at hi
    split at hi
    · cases hi
    · have := s.lt i b c1 hi
      exact ⟨by simpa using this.1, this.2⟩
  · have hi : upd E.ι o none i = some (b, c1) := hi
    unfold upd at hi
    split at hi
    · cases hi
    · rename_i hio
      exact OR.ext x rfl obi (s.obj i b c1 obi hi (by simpa [List.getElem?_set, Ne.symm hio] using hobi))
  · have hi : upd E.ι o none i = some (b, c1) := hi
    unfold upd at hi
    split at hi
    · cases hi
    · exact s.nx i b c1 hi hX

/-- A backing is taken over by a new object. -/
theorem adopt_ok {o b c md : Nat} {e : TypeId} {sh : List K} {rs : List (List AV)} {ob' : AObj} {w' : World} (s : Sim E) (ho : E.h[o]? = some (.arr md e sh rs)) (hm : md ≠ 0) (hι : E.ι o = some (b, c))
    (hsz : w'.heap.size = E.w.heap.size) (hw : ∀ b', b' ≠ b → w'.heap[b']? = E.w.heap[b']?)
    (hob : Ext E ⟨upd (upd E.ι o none) E.h.length (some (b, c)), E.h.set o .dead ++ [ob'], w', E.X⟩ → OR ⟨upd (upd E.ι o none) E.h.length (some (b, c)), E.h.set o .dead ++ [ob'], w', E.X⟩ b c ob') :
    Sim ⟨upd (upd E.ι o none) E.h.length (some (b, c)), E.h.set o .dead ++ [ob'], w', E.X⟩ ∧ Ext E ⟨upd (upd E.ι o none) E.h.length (some (b, c)), E.h.set o .dead ++ [ob'], w', E.X⟩ := by
  have hlt : o < E.h.length := (List.getElem?_eq_some_iff.1 ho).1
  have hstill : ∀ b', E.quiet b' → b' ≠ b := fun b' h e' => by
    subst e'
    have := h.2 o c _ hι ho
    simp [AObj.mut] at this
    exact hm this
  have hold : ∀ i, i < E.h.length → i ≠ o → (E.h.set o .dead ++ [ob'])[i]? = E.h[i]? := fun i hi hio => by
    rw [List.getElem?_append, if_pos (by simpa using hi), List.getElem?_set, if_neg (Ne.symm hio)]
  have hnew : (E.h.set o .dead ++ [ob'])[E.h.length]? = some ob' := by
    rw [List.getElem?_append, if_neg (by simp)]; simp
  have cas : ∀ i p, upd (upd E.ι o none) E.h.length (some (b, c)) i = some p → (i = E.h.length ∧ p = (b, c)) ∨ (i ≠ E.h.length ∧ i ≠ o ∧ E.ι i = some p) := fun i p hi => by
    unfold upd at hi
    split at hi
    · rename_i h; cases hi; exact .inl ⟨h, rfl⟩
    · rename_i h
      split at hi
      · cases hi
      · rename_i h2; exact .inr ⟨h, h2, hi⟩
  have x : Ext E ⟨upd (upd E.ι o none) E.h.length (some (b, c)), E.h.set o .dead ++ [ob'], w', E.X⟩ := by
    refine ⟨fun i obi hi => ?_, fun b' h => ⟨⟨by show b' < w'.heap.size; rw [hsz]; exact h.1, fun i ci obi hi hobi => ?_⟩, hw b' (hstill b' h)⟩, fun j b1 c1 hj => ?_, by show E.w.heap.size ≤ w'.heap.size; omega, rfl⟩
    · have hil : i < E.h.length := (List.getElem?_eq_some_iff.1 hi).1
      by_cases hio : i = o
      · subst hio
        refine ⟨.dead, ?_, .inl rfl⟩
        show (E.h.set i .dead ++ [ob'])[i]? = _
        rw [List.getElem?_append, if_pos (by simpa using hil)]; simp [hil]
      · exact ⟨obi, (hold i hil hio).trans hi, .inr ⟨rfl, fun p hp => by show upd (upd E.ι o none) _ _ i = some p; unfold upd; rw [if_neg (by omega), if_neg hio]; exact hp, fun _ _ _ _ _ _ _ _ e1 e2 => (by rw [e1] at e2; cases e2; rfl)⟩⟩
    · rcases cas i _ hi with ⟨rfl, h2⟩ | ⟨h1, h2, h3⟩
      · cases h2; exact absurd rfl (hstill _ h)
      · exact h.2 i ci obi h3 ((hold i (s.lt i _ _ h3).1 h2).symm.trans hobi)
    · rcases cas j _ hj with ⟨_, h2⟩ | ⟨_, _, h3⟩
      · cases h2; exact .inr ⟨o, c, hι⟩
      · exact .inr ⟨j, c1, h3⟩
  refine ⟨⟨fun i j b1 c1 c2 hi hj => ?_, fun i b1 c1 hi => ?_, fun i b1 c1 obi hi hobi => ?_, fun i b1 c1 hi hX => ?_, fun b1 hX => (by show b1 < w'.heap.size; rw [hsz]; exact s.xlt b1 hX)⟩, x⟩
  · rcases cas i _ hi with ⟨rfl, h2⟩ | ⟨h1, h2, h3⟩ <;> rcases cas j _ hj with ⟨rfl, k2⟩ | ⟨k1, k2, k3⟩
    · rfl
    · cases h2; exact absurd (s.inj j o _ _ _ k3 hι) k2
    · cases k2; exact absurd (s.inj i o _ _ _ h3 hι) h2
    · exact s.inj i j _ _ _ h3 k3
  · rcases cas i _ hi with ⟨rfl, h2⟩ | ⟨h1, h2, h3⟩
    · cases h2; exact ⟨by simp, by show b < w'.heap.size; rw [hsz]; exact (s.lt o b c hι).2⟩
    · have := s.lt i _ _ h3
      exact ⟨by simp; omega, by show b1 < w'.heap.size; rw [hsz]; exact this.2⟩
  · rcases cas i _ hi with ⟨rfl, h2⟩ | ⟨h1, h2, h3⟩
    · cases h2
      have : some ob' = some obi := hnew.symm.trans hobi
      cases this
      exact hob x
    · exact OR.ext x (hw b1 fun e' => by subst e'; exact h2 (s.inj i o _ _ _ h3 hι)) obi (s.obj i b1 c1 obi h3 ((hold i (s.lt i _ _ h3).1 h2).symm.trans hobi))
  · rcases cas i _ hi with ⟨rfl, h2⟩ | ⟨h1, h2, h3⟩
    · cases h2; exact s.nx o _ _ hι hX
    · exact s.nx i b1 c1 h3 hX

theorem zlen {z : List AV} {zv : Value} (h : VL E z zv.cells.toList) : zv.cells.size = z.length := by have := h.len; simpa using this.symm

/-- What is appended: its cells; what append does with it. -/
theorem src_ok {st xt e ty : TypeId} {d : TypeDesc} {sh : List K} {z : List AV} {zv : Value} {i : TypeInfo} {x : AV} {cx : Value} {news : List (List AV)} (s : Sim E) (hx : VR E x cx) (hs2 : 0 < sh.length) (hu : P.underlying st = some (.slice e)) (hxu : P.underlying xt = some d)
    (hzl : z.length = sh.length) (hi : P.info? e = some i) (hzv : i.zero = some zv) (hz1 : VL E z zv.cells.toList) (hz2 : ∀ q ∈ zv.cells.toList, q.oneCell' = true) (hisz : i.size = sh.length) (hnews : newsOf P E.h e d sh z x = some news) :
    ∃ arr : Array Value, VL E news.flatten arr.toList ∧ (∀ q ∈ arr.toList, q.oneCell' = true) ∧ (∀ r ∈ news, rowOk sh r) ∧
      (∀ (base : Option Addr) (sLen sCap : Nat), sLen + news.length ≤ sCap → (Builtin.append_ #[st, xt] ty #[.slice base sLen sCap, cx]).run P E.w =
        match base with
        | some a => ((storeCells (a.add (sLen * i.size)) arr.toList).run P E.w).andThen fun _ w' => .ok (.slice base (sLen + news.length) sCap) w'
        | none => .ok (.slice none (sLen + news.length) sCap) E.w) ∧
      (∀ (base : Option Addr) (sLen sCap : Nat) (olds : Array Value), (Builtin.firstCells i.size sLen (.slice base sLen sCap)).run P E.w.drew = .ok olds E.w.drew → sCap < sLen + news.length → ((sLen + news.length : Nat) : Int) ≤ 9223372036854775807 →
        Builtin.nextslicecap (sLen + news.length) sCap * i.bytes ≤ 281474976710656 → (Builtin.append_ #[st, xt] ty #[.slice base sLen sCap, cx]).run P E.w =
          .ok (.slice (some ⟨E.w.heap.size, 0, none⟩) (sLen + news.length) (grownCap E.w (sLen + news.length) sCap e)) (E.w.drew.alloc (.cells (olds ++ arr ++ Builtin.zeroCells zv.cells (grownCap E.w (sLen + news.length) sCap e - (sLen + news.length))) e))) := by
  have rowsCase : (∃ e', d = .slice e') ∨ d = .string → rowsOf E.h sh x = some news → ∃ arr : Array Value, VL E news.flatten arr.toList ∧ (∀ q ∈ arr.toList, q.oneCell' = true) ∧ (∀ r ∈ news, rowOk sh r) ∧
      (∀ (base : Option Addr) (sLen sCap : Nat), sLen + news.length ≤ sCap → (Builtin.append_ #[st, xt] ty #[.slice base sLen sCap, cx]).run P E.w =
        match base with
        | some a => ((storeCells (a.add (sLen * i.size)) arr.toList).run P E.w).andThen fun _ w' => .ok (.slice base (sLen + news.length) sCap) w'
        | none => .ok (.slice none (sLen + news.length) sCap) E.w) ∧
      (∀ (base : Option Addr) (sLen sCap : Nat) (olds : Array Value), (Builtin.firstCells i.size sLen (.slice base sLen sCap)).run P E.w.drew = .ok olds E.w.drew → sCap < sLen + news.length → ((sLen + news.length : Nat) : Int) ≤ 9223372036854775807 →
        Builtin.nextslicecap (sLen + news.length) sCap * i.bytes ≤ 281474976710656 → (Builtin.append_ #[st, xt] ty #[.slice base sLen sCap, cx]).run P E.w =
          .ok (.slice (some ⟨E.w.heap.size, 0, none⟩) (sLen + news.length) (grownCap E.w (sLen + news.length) sCap e)) (E.w.drew.alloc (.cells (olds ++ arr ++ Builtin.zeroCells zv.cells (grownCap E.w (sLen + news.length) sCap e - (sLen + news.length))) e))) := by
    intro hd h
    obtain ⟨arr, hlen, hfirst, harr, hone, hrow⟩ := rows_ok (P := P) s hx hs2 h
    exact ⟨arr, harr, hone, hrow, fun base sLen sCap hr => app_room (ty := ty) (P := P) hu hxu hd hi hlen (by rw [hisz]; exact hfirst _ rfl) hr,
      fun base sLen sCap olds ho hr h63 hfit => app_grow (ty := ty) (P := P) hu hxu hd hi hzv hlen ho (by rw [hisz]; exact hfirst _ rfl) hr h63 hfit⟩
  unfold newsOf at hnews
  split at hnews
  · exact rowsCase (.inl ⟨_, rfl⟩) hnews
  · exact rowsCase (.inr rfl) hnews
  · split at hnews
    · rename_i n
      split at hnews
      · rename_i hc
        obtain ⟨h0, h1, h2, hk⟩ := hc
        cases hnews
        simp only [VR] at hx
        subst hx
        obtain ⟨m, rfl⟩ : ∃ m : Nat, n = m := ⟨n.toNat, by omega⟩
        have hzs : zv.cells.size = i.size := by have := hz1.len; simp at this; omega
        have hby : P.bytesOf e = i.bytes := by simp [Program.bytesOf, hi]
        rw [hby] at h2
        simp only [Int.toNat_natCast, List.length_replicate]
        refine ⟨madeCells zv.cells (m * i.size), VL.of ?_ fun j v c hv hc => ?_, fun q hq => ?_, zrow_ok hzl hk, fun base sLen sCap hr => app_room_int (ty := ty) (P := P) hu hxu hi hzv hzs h1 h2 hr,
          fun base sLen sCap olds ho hr h63 hfit => app_grow_int (ty := ty) (P := P) hu hxu hi hzv hzs h1 h2 ho hr h63 hfit⟩
        · rw [flat_len (n := sh.length) (fun r hr => by rw [List.eq_of_mem_replicate hr]; exact hzl)]
          simp [madeCells, hisz]
        · obtain ⟨c', hc', _, hr⟩ := made_ok (E := E) hz1 hz2 hzl hs2 (Nat.le_refl m) j v hv
          rw [← hisz] at hc'
          rw [Array.getElem?_toList, hc'] at hc
          cases hc; exact hr
        · obtain ⟨j, hj⟩ := List.getElem?_of_mem hq
          have hjl : j < ((List.replicate m z).flatten).length := by
            rw [flat_len (n := sh.length) (fun r hr => by rw [List.eq_of_mem_replicate hr]; exact hzl)]
            have := (List.getElem?_eq_some_iff.1 hj).1
            simpa [madeCells, hisz] using this
          obtain ⟨c', hc', ho, _⟩ := made_ok (E := E) hz1 hz2 hzl hs2 (Nat.le_refl m) j _ (List.getElem?_eq_getElem hjl)
          rw [← hisz] at hc'
          rw [Array.getElem?_toList, hc'] at hj
          cases hj; exact ho
      · cases hnews
    · cases hnews
  · cases hnews
theorem append_ok {ts : List TypeId} {ty : TypeId} {sv x v : AV} {cs cx : Value} {h' : List AObj} (s : Sim E) (hsv : VR E sv cs) (hx : VR E x cx) (h : appendA P E.h ts sv x = some (v, h')) :
    ∃ cv w' ι', (Builtin.append_ ts.toArray ty #[cs, cx]).run P E.w = .ok cv w' ∧ Sim ⟨ι', h', w', E.X⟩ ∧ Ext E ⟨ι', h', w', E.X⟩ ∧ Wd E.w w' ∧ VR ⟨ι', h', w', E.X⟩ v cv ∧ (∀ i, E.ι i = none → i < E.h.length → ι' i = none ∧ h'[i]? = E.h[i]?) := by
  unfold appendA at h
  split at h
  · rename_i st xt
    split at h
    · rename_i e d hu hxu
      · split at h
        · rename_i sh z hsh hz
          split at h
          · rename_i hzl
            split at h
            · rename_i news hnews
              obtain ⟨hs1, hs2⟩ := elemSh_ok hsh
              obtain ⟨i, zv, hi, hzv, hz1, hz2⟩ := zero_ok (E := E) hz
              have hisz : i.size = sh.length := by rw [hs1]; simp [szOf, Program.cellsOf, hi]
              have hiby : P.bytesOf e = i.bytes := by simp [Program.bytesOf, hi]
              obtain ⟨arr, harr, hone, hrow, hRoom, hGrow⟩ := src_ok (P := P) (st := st) (ty := ty) s hx hs2 hu hxu hzl hi hzv hz1 hz2 hisz hnews
              have harrsz : arr.size = news.length * sh.length := by
                have := harr.len
                rw [flat_len fun r hr => (hrow r hr).1] at this
                simpa using this.symm
              have hzs : zv.cells.size = sh.length := by have := hz1.len; simp at this; omega
              -- a new backing
              have grow : ∀ (base : Option Addr) (sLen sCap : Nat) (olds : Array Value) (rs : List (List AV)) (E1 : En), E1.w = E.w → Sim E1 → (∀ r ∈ rs, rowOk sh r) → rs.length = sLen → VL E1 rs.flatten olds.toList → (∀ q ∈ olds.toList, q.oneCell' = true) → VL E1 news.flatten arr.toList →
                  (Builtin.firstCells i.size sLen (.slice base sLen sCap)).run P E.w.drew = .ok olds E.w.drew → sCap < sLen + news.length → (sLen + news.length) * P.bytesOf e ≤ 140737488355328 → sLen + news.length ≤ 9223372036854775807 → E1.ι E1.h.length = none →
                  ∃ cv w' c, (Builtin.append_ #[st, xt] ty #[.slice base sLen sCap, cx]).run P E.w = .ok cv w' ∧ Sim ⟨upd E1.ι E1.h.length (some (E1.w.heap.size, c)), E1.h ++ [.arr 2 e sh (rs ++ news)], w', E1.X⟩ ∧ Ext E1 ⟨upd E1.ι E1.h.length (some (E1.w.heap.size, c)), E1.h ++ [.arr 2 e sh (rs ++ news)], w', E1.X⟩ ∧ Wd E.w w' ∧
                    VR ⟨upd E1.ι E1.h.length (some (E1.w.heap.size, c)), E1.h ++ [.arr 2 e sh (rs ++ news)], w', E1.X⟩ (.sl E1.h.length 0 (rs.length + news.length)) cv := by
                intro base sLen sCap olds rs E1 hE1 s1 hrs hrl hVo hoo hVn hfo hgt hby h63 hfree
                subst hrl
                have hrun := hGrow base rs.length sCap olds hfo hgt (by omega) (growslice_fits hgt (by rw [← hiby]; exact hby))
                have hge := grownCap_ge E.w (rs.length + news.length) sCap e
                have hcm := grownCap_le_maxLen E.w (rs.length + news.length) sCap e (by unfold maxLen; omega)
                have holdsz : olds.size = rs.length * sh.length := by
                  have := hVo.len
                  rw [flat_len fun r hr => (hrs r hr).1] at this
                  simpa using this.symm
                have hall : VL E1 (rs ++ news).flatten (olds ++ arr).toList := by
                  rw [List.flatten_append, Array.toList_append]; exact hVo.app hVn
                have hna := newArr (E := E1) (e := e) (sh := sh) (rs := rs ++ news) (a := olds ++ arr ++ Builtin.zeroCells zv.cells (grownCap E.w (rs.length + news.length) sCap e - (rs.length + news.length))) (ix := E1.h.length) (md := 2) (cap := grownCap E.w (rs.length + news.length) sCap e) (fr := (0, 0)) hs2
                  (fun r hr => by rcases List.mem_append.1 hr with h | h; exact hrs r h; exact hrow r h)
                  (by simp only [Array.size_append, size_zeroCells, hzs, holdsz, harrsz, ← Nat.add_mul]; congr 1; omega) (by simpa using hge) hcm (fun _ => ⟨rfl, rfl⟩) (fun i _ => by omega)
                  (fun j u hu' => by
                    obtain ⟨c, hc, h1, h2⟩ := hall.cell (fun q hq => by rw [Array.toList_append] at hq; rcases List.mem_append.1 hq with h | h; exact hoo q h; exact hone q h) hu'
                    have hlt : j < (olds ++ arr).size := by have := (List.getElem?_eq_some_iff.1 hc).1; simpa using this
                    exact ⟨c, by rw [Array.getElem?_append_left hlt, ← Array.getElem?_toList]; exact hc, h1, h2⟩)
                  (w' := E.w.drew.alloc (.cells (olds ++ arr ++ Builtin.zeroCells zv.cells (grownCap E.w (rs.length + news.length) sCap e - (rs.length + news.length))) e)) (by rw [hE1]; rfl) (by rw [hE1]; rfl) (by rw [hE1]; rfl) (by rw [hE1]; rfl)
                obtain ⟨c, g1, g2, g3, g4⟩ := new_ok s1 hna (E1.h ++ [.arr 2 e sh (rs ++ news)]) (fun i hi => by
                  rw [List.getElem?_append]
                  split
                  · rfl
                  · rename_i hge2
                    rw [List.getElem?_eq_none (l := E1.h) (by omega), List.getElem?_eq_none (by simp; omega)]) (by simp) hfree (.inl (by simp))
                rw [List.length_append] at g4
                exact ⟨_, _, c, hrun, g1, g2, by rw [hE1] at g3; exact g3, by rw [hE1] at g4 ⊢; exact g4⟩
              have hnone : ∀ {E1 : En}, Sim E1 → E1.ι E1.h.length = none := fun {E1} s1 => by
                cases hc : E1.ι E1.h.length with
                | none => rfl
                | some p => exact absurd (s1.lt _ p.1 p.2 hc).1 (Nat.lt_irrefl _)
              split at h
              · -- nil
                simp only [VR] at hsv
                subst hsv
                split at h
                · cases h
                  have hrun := hRoom none 0 0 (Nat.le_refl _)
                  exact ⟨_, _, E.ι, by simpa using hrun, s, Ext.refl E, Wd.refl _, by simp [VR], fun i h1 _ => ⟨h1, rfl⟩⟩
                · rename_i hne
                  split at h
                  · rename_i hc
                    cases h
                    have hpos : 0 < news.length := by cases news with | nil => exact absurd rfl hne | cons _ _ => simp
                    obtain ⟨cv, w', c, g1, g2, g3, g4, g5⟩ := grow none 0 0 #[] [] E rfl s (by simp) rfl (by simp [VL]) (by simp) harr (by simp [Builtin.firstCells]) (by omega) (by simpa using hc.1) (by omega) (hnone s)
                    simp only [List.nil_append, List.length_nil, Nat.zero_add] at g2 g3 g5
                    refine ⟨cv, w', _, by simpa using g1, g2, g3, g4, g5, fun i h1 h2 => ⟨by rw [upd, if_neg (by omega)]; exact h1, by rw [List.getElem?_append, if_pos h2]⟩⟩
                  · cases h
              · rename_i o len
                split at h
                · rename_i e' sh' rs ho
                  split at h
                  · rename_i hc
                    obtain ⟨rfl, rfl, rfl, hby, h63⟩ := hc
                    cases h
                    simp only [VR, ho] at hsv
                    obtain ⟨b, c, cap, hι, rfl, hlc0, hoc, _⟩ := hsv
                    obtain ⟨h0, a, lo, hi2, hb, hasz, hlc, hcm, hrs, hRR, hfr, hno⟩ := s.obj o b c _ hι ho
                    have hcells := RR.cells (fun r hr => (hrs r hr).1) hRR
                    have hcc : cap = c := by omega
                    subst hcc
                    obtain ⟨s1, x1⟩ := kill_ok s ho
                    by_cases hroom : rs.length + news.length ≤ cap
                    · obtain ⟨rfl, rfl⟩ := hfr rfl
                      have hmul : rs.length * sh'.length + news.length * sh'.length ≤ cap * sh'.length := by rw [← Nat.add_mul]; exact Nat.mul_le_mul_right _ hroom
                      have halen : arr.toList.length = news.length * sh'.length := by simpa using harrsz
                      obtain ⟨w', a', g1, g2, g3, g4, g5, g6, g7, g8⟩ := stores_ok (P := P) (off := rs.length * sh'.length) E.w arr.toList hb (by omega) hone hno
                      have hrun := hRoom (some ⟨b, 0, none⟩) rs.length cap hroom
                      have hadd : (⟨b, 0, none⟩ : Addr).add (rs.length * i.size) = ⟨b, rs.length * sh'.length, none⟩ := by rw [Addr.add_lit, hisz]; simp
                      dsimp only at hrun
                      rw [hadd] at hrun
                      simp only [g1, Result.andThen_ok] at hrun
                      have e1 : a.toList.length = a.size := by simp
                      have e2 : a'.toList.length = a'.size := by simp
                      have ha' : a'.size = a.size := by
                        have h5 := congrArg List.length g3
                        rw [List.length_append, List.length_append, List.length_take, List.length_drop] at h5
                        omega
                      have hfl : rs.flatten.length = rs.length * sh'.length := flat_len fun r hr => (hrs r hr).1
                      have hm := adopt_ok (w' := w') (ob' := .arr 2 e' sh' (rs ++ news)) s ho (by simp) hι g4 g5 (fun x => ⟨hs2, a', 0, 0, g2, by rw [ha', hasz], by simpa using hroom, hcm,
                        fun r hr => by rcases List.mem_append.1 hr with h | h; exact hrs r h; exact hrow r h, RR_flat (fun r hr => by rcases List.mem_append.1 hr with h | h; exact (hrs r h).1; exact (hrow r h).1) (fun j u hu' => by
                          rw [cell_of_cells g2, Nat.zero_add, ← Array.getElem?_toList, g3, setAll_get (by omega)]
                          rw [List.flatten_append, List.getElem?_append] at hu'
                          split at hu'
                          · rename_i hj
                            rw [if_neg (by omega)]
                            obtain ⟨cu, h1, h2, h3⟩ := hcells j u hu'
                            rw [cell_of_cells hb, Nat.zero_add] at h1
                            exact ⟨cu, by rw [Array.getElem?_toList]; exact h1, h2, VR.ext x _ _ h3⟩
                          · rename_i hj
                            have hjl : j - rs.flatten.length < news.flatten.length := (List.getElem?_eq_some_iff.1 hu').1
                            rw [flat_len fun r hr => (hrow r hr).1] at hjl
                            obtain ⟨cu, h1, h2, h3⟩ := harr.cell hone hu'
                            rw [hfl] at h1 hjl
                            exact ⟨cu, by rw [if_pos (by omega)]; exact h1, h2, VR.ext x _ _ h3⟩), fun _ => ⟨rfl, rfl⟩, fun k _ => by omega⟩)
                      refine ⟨_, w', _, by simpa using hrun, hm.1, hm.2, ⟨g6, g7, g8, by rw [g4]; exact Nat.le_refl _⟩, ?_, fun i h1 h2 => ?_⟩
                      · have hnew : (E.h.set o .dead ++ [AObj.arr 2 e' sh' (rs ++ news)])[E.h.length]? = some (AObj.arr 2 e' sh' (rs ++ news)) := by
                          rw [List.getElem?_append, if_neg (by simp)]; simp
                        simp only [VR, hnew]
                        exact ⟨b, cap, cap, by simp [upd], by simp, hroom, by simp, by simp⟩
                      · have hio : i ≠ o := fun e => by subst e; rw [hι] at h1; cases h1
                        exact ⟨by show upd (upd E.ι o none) _ _ i = none; unfold upd; rw [if_neg (by omega), if_neg hio]; exact h1, by rw [List.getElem?_append, if_pos (by simpa using h2), List.getElem?_set, if_neg (Ne.symm hio)]⟩
                    · obtain ⟨olds, k1, k2, k3, k4⟩ := cells_at (P := P) (w := E.w) hcells
                      have hfo := run_firstCells_some (P := P) E.w.drew i.size rs.length ⟨b, 0, none⟩ rs.length cap olds (by rw [← k1.len, flat_len (fun r hr => (hrs r hr).1), hisz]) (fun j u hu' => by
                        rw [Addr.add_lit]
                        exact k4 j u hu')
                      have h0' : 0 * sh'.length = 0 := by simp
                      obtain ⟨cv, w', c', g1, g2, g3, g4, g5⟩ := grow (some ⟨b, 0, none⟩) rs.length cap olds.toArray rs ⟨upd E.ι o none, E.h.set o .dead, E.w, E.X⟩ rfl s1 hrs rfl (by simpa using VL.ext x1 _ _ k1) (by simpa using k2) (VL.ext x1 _ _ harr) hfo (by omega) hby h63 (hnone s1)
                      simp only [List.length_set] at g2 g3 g5
                      refine ⟨cv, w', _, by simpa [h0'] using g1, g2, x1.trans g3, g4, g5, fun i h1 h2 => ?_⟩
                      have hio : i ≠ o := fun e => by subst e; rw [hι] at h1; cases h1
                      refine ⟨?_, ?_⟩
                      · show upd (upd E.ι o none) _ _ i = none
                        unfold upd
                        rw [if_neg (by omega), if_neg hio]; exact h1
                      · rw [List.getElem?_append, if_pos (by simpa using h2), List.getElem?_set, if_neg (Ne.symm hio)]
                  · cases h
                · cases h
              · cases h
            · cases h
          · cases h
        · cases h
    · cases h
  · cases h
end
end Go.Proofs.YtiemjcchlfbglaaGreatE
/- copy: cells of a slice, from a slice. -/
namespace Go.Proofs.YtiemjcchlfbglaaGreatE
open Go
section
variable {P : Program} {E : En}
theorem pre_ok {x : AV} {cx : Value} {m n : Nat} (hx : VR E x cx) (hm : lenS x = some m) (hn : n ≤ m) :
    (∀ w, (Builtin.lenOf cx).run P w = .ok m w) ∧ ∃ cy, VR E (preS n x) cy ∧ ∀ size w, (Builtin.firstCells size n cx).run P w = (Builtin.firstCells size n cy).run P w := by
  unfold lenS at hm
  split at hm
  · rename_i o off len
    cases hm
    simp only [VR, preS] at hx ⊢
    split at hx
    · rename_i ho
      obtain ⟨b, c, cap, h1, rfl, h2, h3, h4⟩ := hx
      exact ⟨fun w => rfl, .slice (some ⟨b, off * _, none⟩) n cap, ⟨b, c, cap, h1, rfl, by omega, h3, by omega⟩, fun size w => rfl⟩
    · obtain ⟨a, cap, rfl⟩ := hx
      exact ⟨fun w => rfl, .slice (some a) n cap, ⟨a, cap, rfl⟩, fun size w => rfl⟩
    · exact hx.elim
  · rename_i nl sh rs
    cases hm
    simp only [VR, preS] at hx ⊢
    obtain ⟨a, cap, rfl, h1, h2, h3, h4, h5⟩ := hx
    have hl : (rs.take n).length = n := by rw [List.length_take]; omega
    refine ⟨fun w => rfl, .slice a n cap, ⟨a, cap, by rw [hl], by omega, h2, h3, h4, ?_⟩, fun size w => by cases a <;> rfl⟩
    rcases h5 with rfl | ⟨h6, b, off, h7, h8, h9, h10, h11⟩
    · exact .inl (by simp)
    · exact .inr ⟨h6, b, off, h7, h8, fun r hr => h9 r (List.mem_of_mem_take hr), fun r hr => h10 r (List.mem_of_mem_take hr), h11.take n⟩
  · cases hm
theorem flat_take {n : Nat} : ∀ {rs : List (List AV)} {k : Nat}, (∀ r ∈ rs, r.length = n) → (rs.take k).flatten = rs.flatten.take (k * n)
  | [], k, _ => by simp
  | r :: rs, 0, _ => by simp
  | r :: rs, k + 1, h => by
    have hr : r.length = n := h r (by simp)
    rw [List.take_succ_cons, List.flatten_cons, List.flatten_cons, flat_take fun r' hr' => h r' (by simp [hr']), List.take_append, Nat.succ_mul, hr, Nat.add_sub_cancel]
    rw [List.take_of_length_le (l := r) (i := k * n + n) (by omega)]
theorem flat_drop {n : Nat} : ∀ {rs : List (List AV)} {k : Nat}, (∀ r ∈ rs, r.length = n) → (rs.drop k).flatten = rs.flatten.drop (k * n)
  | [], k, _ => by simp
  | r :: rs, 0, _ => by simp
  | r :: rs, k + 1, h => by
    have hr : r.length = n := h r (by simp)
    rw [List.drop_succ_cons, List.flatten_cons, flat_drop fun r' hr' => h r' (by simp [hr']), List.drop_append, Nat.succ_mul, hr, Nat.add_sub_cancel]
    rw [List.drop_eq_nil_of_le (as := r) (i := k * n + n) (by omega), List.nil_append]
theorem copy_ok {ts : List TypeId} {ty : TypeId} {d x v : AV} {cd cx : Value} {h' : List AObj} (s : Sim E) (hd : VR E d cd) (hx : VR E x cx) (h : copyA P E.h ts d x = some (v, h')) :
    ∃ cv w', (Builtin.copy_ ts.toArray ty #[cd, cx]).run P E.w = .ok cv w' ∧ Sim ⟨E.ι, h', w', E.X⟩ ∧ Ext E ⟨E.ι, h', w', E.X⟩ ∧ Wd E.w w' ∧ VR ⟨E.ι, h', w', E.X⟩ v cv ∧
      ∃ o off len ob ob', d = .sl o off len ∧ E.h[o]? = some ob ∧ ob ≠ .dead ∧ h' = E.h.set o ob' := by
  unfold copyA at h
  split at h
  · rename_i st xt
    split at h
    · rename_i e hu
      split at h
      · rename_i sh z hsh hz
        split at h
        · rename_i o off len
          split at h
          · rename_i md e' sh' rs ho
            split at h
            · rename_i m hm
              split at h
              · rename_i news hnews
                split at h
                · rename_i hc
                  obtain ⟨hmd, rfl, rfl, hfit, hnl⟩ := hc
                  cases h
                  have hnle : Nat.min m len ≤ m := Nat.min_le_left _ _
                  have hnle2 : Nat.min m len ≤ len := Nat.min_le_right _ _
                  generalize hn : Nat.min m len = n at *
                  obtain ⟨hs1, hs2⟩ := elemSh_ok hsh
                  simp only [VR, ho] at hd
                  obtain ⟨b, c, cap, hι, rfl, hlc0, hoc, _⟩ := hd
                  obtain ⟨h0, a, lo, hi2, hb, hasz, hlc, hcm, hrs, hRR, hfr, hno⟩ := s.obj o b c _ hι ho
                  obtain ⟨hlen, cy, hy, hfirst⟩ := pre_ok (P := P) (n := n) hx hm hnle
                  obtain ⟨arr, _, hf2, harr, hone, hrow⟩ := rows_ok (P := P) s hy hs2 hnews
                  rw [hnl] at hf2
                  have harrsz : arr.size = n * sh'.length := by
                    have := harr.len
                    rw [flat_len fun r hr => (hrow r hr).1, hnl] at this
                    simpa using this.symm
                  have halen : arr.toList.length = n * sh'.length := by simpa using harrsz
                  have hmul : off * sh'.length + n * sh'.length ≤ c * sh'.length := by rw [← Nat.add_mul]; exact Nat.mul_le_mul_right _ (by omega)
                  obtain ⟨w', a', g1, g2, g3, g4, g5, g6, g7, g8⟩ := stores_ok (P := P) (off := off * sh'.length) E.w arr.toList hb (by omega) hone hno
                  have hcells := RR.cells (fun r hr => (hrs r hr).1) hRR
                  have hfl : rs.flatten.length = rs.length * sh'.length := flat_len fun r hr => (hrs r hr).1
                  have ha' : a'.size = a.size := by
                    have h5 := congrArg List.length g3
                    rw [List.length_append, List.length_append, List.length_take, List.length_drop] at h5
                    have e1 : a.toList.length = a.size := by simp
                    have e2 : a'.toList.length = a'.size := by simp
                    omega
                  have hrs' : ∀ r ∈ rs.take off ++ (news ++ rs.drop (off + news.length)), rowOk sh' r := fun r hr => by
                    rw [List.mem_append, List.mem_append] at hr
                    rcases hr with hr | hr | hr
                    · exact hrs r (List.mem_of_mem_take hr)
                    · exact hrow r hr
                    · exact hrs r (List.mem_of_mem_drop hr)
                  have hflat : (rs.take off ++ (news ++ rs.drop (off + news.length))).flatten = rs.flatten.take (off * sh'.length) ++ (news.flatten ++ rs.flatten.drop (off * sh'.length + news.flatten.length)) := by
                    have ft := flat_take (n := sh'.length) (rs := rs) (k := off) (fun r hr => (hrs r hr).1)
                    have fd := flat_drop (n := sh'.length) (rs := rs) (k := off + news.length) (fun r hr => (hrs r hr).1)
                    rw [List.flatten_append, List.flatten_append, ft, fd, flat_len (n := sh'.length) (rs := news) fun r hr => (hrow r hr).1, ← Nat.add_mul]
                  have hnfl : news.flatten.length = n * sh'.length := by rw [flat_len fun r hr => (hrow r hr).1, hnl]
                  have hmul2 : off * sh'.length + n * sh'.length ≤ rs.length * sh'.length := by rw [← Nat.add_mul]; exact Nat.mul_le_mul_right _ (by omega)
                  have hst : off * sh'.length + arr.toList.length ≤ a.toList.length := by
                    have e1 : a.toList.length = a.size := by simp
                    omega
                  have hm := mod_ok (w' := w') (ob' := .arr md e' sh' (rs.take off ++ (news ++ rs.drop (off + news.length)))) s hι ho (by simp [AObj.mut, hmd]) rfl
                    (fun _ _ _ _ _ _ _ _ e1 e2 => by cases e1; cases e2; simp only [List.length_append, List.length_take, List.length_drop]; omega) g4 g5 (fun x => ⟨h0, a', lo, hi2, g2, by rw [ha', hasz], by simp only [List.length_append, List.length_take, List.length_drop]; omega, hcm, hrs',
                      RR_flat (fun r hr => (hrs' r hr).1) (fun j u hu' => by
                        rw [cell_of_cells g2, Nat.zero_add, ← Array.getElem?_toList, g3, setAll_get hst]
                        rw [hflat, setAll_get (by rw [hnfl, hfl]; exact hmul2)] at hu'
                        rw [halen]
                        rw [hnfl] at hu'
                        split at hu'
                        · rename_i hj
                          rw [if_pos hj]
                          obtain ⟨cu, h1, h2, h3⟩ := harr.cell hone hu'
                          exact ⟨cu, h1, h2, VR.ext x _ _ h3⟩
                        · rename_i hj
                          rw [if_neg hj]
                          obtain ⟨cu, h1, h2, h3⟩ := hcells j u hu'
                          rw [cell_of_cells hb, Nat.zero_add] at h1
                          exact ⟨cu, by rw [Array.getElem?_toList]; exact h1, h2, VR.ext x _ _ h3⟩), hfr, fun k hk' => hno k (by rw [← ha']; exact hk')⟩)
                  obtain ⟨i, zv, hi, _, _, _⟩ := zero_ok (E := E) hz
                  have his : i.size = sh'.length := by rw [hs1]; simp [szOf, Program.cellsOf, hi]
                  refine ⟨goInt n, w', ?_, hm.1, hm.2, ⟨g6, g7, g8, by rw [g4]; exact Nat.le_refl _⟩, by simp [VR, goInt], o, off, len, _, _, rfl, ho, by simp, rfl⟩
                  have hf3 : (Builtin.firstCells i.size n cx).run P E.w = .ok arr E.w := by rw [hfirst, his]; exact hf2 _ rfl
                  have hn' : Nat.min m len = n := hn
                  simp [Builtin.copy_, run_underlying hu, hlen, sizeOf, typeInfo, hi, hn', hf3, g1]
                · cases h
              · cases h
            · cases h
          · cases h
        · cases h
      · cases h
    · cases h
  · cases h
end
end Go.Proofs.YtiemjcchlfbglaaGreatE
/- Objects renumbered, slices frozen. -/
namespace Go.Proofs.YtiemjcchlfbglaaGreatE
open Go

theorem idx_get : ∀ {σ : List Nat} {o j : Nat}, idx o σ = some j → σ[j]? = some o
  | [], _, _, h => by simp [idx] at h
  | x :: l, o, j, h => by
    simp only [idx] at h
    split at h
    · rename_i e; cases h; simp [e]
    · rw [Option.map_eq_some_iff] at h
      obtain ⟨k, hk, rfl⟩ := h
      simpa using idx_get hk
theorem idx_none : ∀ {σ : List Nat} {o : Nat}, idx o σ = none → o ∉ σ
  | [], _, _ => by simp
  | x :: l, o, h => by
    simp only [idx] at h
    split at h
    · cases h
    · rename_i e
      rw [Option.map_eq_none_iff] at h
      have := idx_none h
      simp only [List.mem_cons, not_or]
      exact ⟨fun e' => e e'.symm, this⟩
theorem idx_of : ∀ {σ : List Nat} {o j : Nat}, σ.Nodup → σ[j]? = some o → idx o σ = some j
  | [], _, _, _, h => by simp at h
  | x :: l, o, j, hn, h => by
    rw [List.nodup_cons] at hn
    simp only [idx]
    cases j with
    | zero => simp at h; rw [if_pos h]
    | succ j =>
      simp at h
      rw [if_neg (fun e => hn.1 (by rw [e]; exact List.mem_of_getElem? h)), idx_of hn.2 h]
      rfl

theorem refsL_nil : ∀ {l : List AV}, (∀ v ∈ l, refsV v = []) → refsL l = []
  | [], _ => rfl
  | v :: l, h => by simp only [refsL]; rw [h v (by simp), refsL_nil fun u hu => h u (by simp [hu])]; rfl
theorem refsL_cons {v : AV} {l : List AV} (h : refsL (v :: l) = []) : refsV v = [] ∧ refsL l = [] := by
  simpa [refsL] using h
theorem typed_refs {k : K} {v : AV} (h : kOk k v = true) (ht : k.typed = true) : refsV v = [] := by
  cases k <;> simp [K.typed] at ht <;> cases v <;> simp [kOk] at h <;> rfl
theorem row_refs {sh : List K} {r : List AV} (h : rowOk sh r) (hp : pureR sh r = true) : refsL r = [] := by
  unfold pureR at hp
  rw [Bool.or_eq_true] at hp
  rcases hp with hp | hp
  · rw [List.all_eq_true] at hp
    refine refsL_nil fun v hv => ?_
    obtain ⟨j, hj⟩ := List.getElem?_of_mem hv
    have hlt : j < sh.length := by rw [← h.1]; exact (List.getElem?_eq_some_iff.1 hj).1
    have hk : sh[j]? = some sh[j] := List.getElem?_eq_getElem hlt
    exact typed_refs (h.k hk hj) (hp _ (List.getElem_mem hlt))
  · simpa using hp

mutual
theorem VR.pure {E E' : En} (x : ∀ b, E.still b → E'.still b ∧ E'.w.heap[b]? = E.w.heap[b]?) : ∀ (v : AV) (cv : Value), refsV v = [] → VR E v cv → VR E' v cv
  | .int _ _, _, _, h | .bool _, _, _, h | .str _, _, _, h | .nilp, _, _, h | .nils, _, _, h | .nilf, _, _, h | .nili, _, _, h => by simpa only [VR] using h
  | .gone, _, _, _ => by simp only [VR]
  | .ptr o off, _, hr, _ => by simp [refsV] at hr
  | .eptr o i f, _, hr, _ => by simp [refsV] at hr
  | .sl o off len, _, hr, _ => by simp [refsV] at hr
  | .rptr sh cs f, cv, _, h => by
    simp only [VR] at h ⊢
    obtain ⟨b, off, rfl, hs, hk, hp, hc⟩ := h
    exact ⟨b, off, rfl, (x b hs).1, hk, hp, CR.pure x (x b hs).2 cs off (row_refs hk hp) hc⟩
  | .row nl sh rs, cv, _, h => by
    simp only [VR] at h ⊢
    obtain ⟨a, cap, rfl, h1, h2, h4, h5, h3⟩ := h
    refine ⟨a, cap, rfl, h1, h2, h4, h5, ?_⟩
    rcases h3 with h3 | ⟨h0, b, off, rfl, hs, hk, hp, hr⟩
    · exact .inl h3
    · exact .inr ⟨h0, b, off, rfl, (x b hs).1, hk, hp, RR.pure x (x b hs).2 rs off (fun r hr' => row_refs (hk r hr') (hp r hr')) hr⟩
  | .fn f a b, cv, hr, h => by
    simp only [VR] at h ⊢
    simp only [refsV, List.append_eq_nil_iff] at hr
    obtain ⟨p, q, rfl, h1, h2⟩ := h
    exact ⟨p, q, rfl, VL.pure x a _ hr.1 h1, VL.pure x b _ hr.2 h2⟩
  | .iface t v, cv, hr, h => by
    simp only [VR] at h ⊢
    simp only [refsV] at hr
    obtain ⟨u, rfl, h1⟩ := h
    exact ⟨u, rfl, VR.pure x v u hr h1⟩
  | .agg cs, cv, hr, h => by
    simp only [VR] at h ⊢
    simp only [refsV] at hr
    obtain ⟨a, rfl, h1, h2⟩ := h
    exact ⟨a, rfl, VL.pure x cs _ hr h1, h2⟩
  | .tup cs, cv, hr, h => by
    simp only [VR] at h ⊢
    simp only [refsV] at hr
    obtain ⟨a, rfl, h1⟩ := h
    exact ⟨a, rfl, VL.pure x cs _ hr h1⟩
theorem VL.pure {E E' : En} (x : ∀ b, E.still b → E'.still b ∧ E'.w.heap[b]? = E.w.heap[b]?) : ∀ (vs : List AV) (cs : List Value), refsL vs = [] → VL E vs cs → VL E' vs cs
  | [], [], _, _ => by simp only [VL]
  | [], _ :: _, _, h => by simp [VL] at h
  | _ :: _, [], _, h => by simp [VL] at h
  | v :: vs, c :: cs, hr, h => by
    simp only [VL] at h ⊢
    exact ⟨VR.pure x v c (refsL_cons hr).1 h.1, VL.pure x vs cs (refsL_cons hr).2 h.2⟩
theorem CR.pure {E E' : En} (x : ∀ b, E.still b → E'.still b ∧ E'.w.heap[b]? = E.w.heap[b]?) {b : Nat} (hb : E'.w.heap[b]? = E.w.heap[b]?) : ∀ (cs : List AV) (off : Nat), refsL cs = [] → CR E b off cs → CR E' b off cs
  | [], _, _, _ => by simp only [CR]
  | c :: cs, off, hr, h => by
    simp only [CR] at h ⊢
    obtain ⟨⟨cv, h1, h2, h3⟩, h4⟩ := h
    exact ⟨⟨cv, by rw [cell_eq hb]; exact h1, h2, VR.pure x c cv (refsL_cons hr).1 h3⟩, CR.pure x hb cs (off + 1) (refsL_cons hr).2 h4⟩
theorem RR.pure {E E' : En} (x : ∀ b, E.still b → E'.still b ∧ E'.w.heap[b]? = E.w.heap[b]?) {b n : Nat} (hb : E'.w.heap[b]? = E.w.heap[b]?) : ∀ (rs : List (List AV)) (off : Nat), (∀ r ∈ rs, refsL r = []) → RR E b n off rs → RR E' b n off rs
  | [], _, _, _ => by simp only [RR]
  | r :: rs, off, hr, h => by
    simp only [RR] at h ⊢
    exact ⟨CR.pure x hb r off (hr r (by simp)) h.1, RR.pure x hb rs (off + n) (fun r' hr' => hr r' (by simp [hr'])) h.2⟩
end

/-- The objects of E stand in E' under other numbers. -/
structure Mp (f : Nat → Option Nat) (E E' : En) : Prop where
  map : ∀ o j ob, f o = some j → E.h[o]? = some ob → E'.h[j]? = some (mapO f ob) ∧ (∀ p, E.ι o = some p → E'.ι j = some p)
  st : ∀ b, E.still b → E'.still b ∧ E'.w.heap[b]? = E.w.heap[b]?

mutual
theorem VR.map {f : Nat → Option Nat} {E E' : En} (m : Mp f E E') : ∀ (v : AV) (cv : Value), VR E v cv → VR E' (mapV f v) cv
  | .int _ _, _, h | .bool _, _, h | .str _, _, h | .nilp, _, h | .nils, _, h | .nilf, _, h | .nili, _, h => by simpa only [VR, mapV] using h
  | .gone, _, _ => by simp only [VR, mapV]
  | .ptr o off, cv, h => by
    simp only [mapV]
    cases hf : f o with
    | none => simp only [VR]
    | some j =>
      simp only [VR] at h ⊢
      cases ho : E.h[o]? with
      | none => simp [ho] at h
      | some ob =>
        obtain ⟨h1, h2⟩ := m.map o j ob hf ho
        rw [h1]
        cases ob <;> simp only [ho] at h <;> simp only [mapO]
        · obtain ⟨b, c, hι, rfl⟩ := h; exact ⟨b, c, h2 _ hι, rfl⟩
        · obtain ⟨b, c, hι, rfl⟩ := h; exact ⟨b, c, h2 _ hι, rfl⟩
        · exact h
        · obtain ⟨b, c, hι, rfl⟩ := h; exact ⟨b, c, h2 _ hι, rfl⟩
  | .eptr o i g, cv, h => by
    simp only [mapV]
    cases hf : f o with
    | none => simp only [VR]
    | some j =>
      simp only [VR] at h ⊢
      cases ho : E.h[o]? with
      | none => simp [ho] at h
      | some ob =>
        obtain ⟨h1, h2⟩ := m.map o j ob hf ho
        rw [h1]
        cases ob <;> simp only [ho] at h <;> simp only [mapO]
        · obtain ⟨b, c, hι, rfl⟩ := h; exact ⟨b, c, h2 _ hι, rfl⟩
        · exact h
  | .sl o off len, cv, h => by
    simp only [mapV]
    cases hf : f o with
    | none => simp only [VR]
    | some j =>
      simp only [VR] at h ⊢
      cases ho : E.h[o]? with
      | none => simp [ho] at h
      | some ob =>
        obtain ⟨h1, h2⟩ := m.map o j ob hf ho
        rw [h1]
        cases ob <;> simp only [ho] at h <;> simp only [mapO]
        · obtain ⟨b, c, cap, hι, rfl, h3, h4, h5⟩ := h
          refine ⟨b, c, cap, h2 _ hι, rfl, h3, h4, ?_⟩
          unfold mapRows
          split
          · exact h5
          · simpa using h5
        · exact h
  | .rptr sh cs g, cv, h => by
    simp only [mapV]
    exact VR.pure m.st (.rptr sh cs g) cv (by simp [refsV]) h
  | .row nl sh rs, cv, h => by
    simp only [mapV]
    exact VR.pure m.st (.row nl sh rs) cv (by simp [refsV]) h
  | .fn g a b, cv, h => by
    simp only [mapV, VR] at h ⊢
    obtain ⟨p, q, rfl, h1, h2⟩ := h
    exact ⟨p, q, rfl, VL.map m a _ h1, VL.map m b _ h2⟩
  | .iface t v, cv, h => by
    simp only [mapV, VR] at h ⊢
    obtain ⟨u, rfl, h1⟩ := h
    exact ⟨u, rfl, VR.map m v u h1⟩
  | .agg cs, cv, h => by
    simp only [mapV, VR] at h ⊢
    obtain ⟨a, rfl, h1, h2⟩ := h
    exact ⟨a, rfl, VL.map m cs _ h1, h2⟩
  | .tup cs, cv, h => by
    simp only [mapV, VR] at h ⊢
    obtain ⟨a, rfl, h1⟩ := h
    exact ⟨a, rfl, VL.map m cs _ h1⟩
theorem VL.map {f : Nat → Option Nat} {E E' : En} (m : Mp f E E') : ∀ (vs : List AV) (cs : List Value), VL E vs cs → VL E' (mapL f vs) cs
  | [], [], _ => by simp only [VL, mapL]
  | [], _ :: _, h => by simp [VL] at h
  | _ :: _, [], h => by simp [VL] at h
  | v :: vs, c :: cs, h => by
    simp only [VL, mapL] at h ⊢
    exact ⟨VR.map m v c h.1, VL.map m vs cs h.2⟩
end
theorem CR.map {f : Nat → Option Nat} {E E' : En} (m : Mp f E E') {b : Nat} (hb : E'.w.heap[b]? = E.w.heap[b]?) : ∀ (cs : List AV) (off : Nat), CR E b off cs → CR E' b off (mapL f cs)
  | [], _, _ => by simp only [CR, mapL]
  | c :: cs, off, h => by
    simp only [CR, mapL] at h ⊢
    obtain ⟨⟨cv, h1, h2, h3⟩, h4⟩ := h
    exact ⟨⟨cv, by rw [cell_eq hb]; exact h1, h2, VR.map m c cv h3⟩, CR.map m hb cs (off + 1) h4⟩
theorem RR.map {f : Nat → Option Nat} {E E' : En} (m : Mp f E E') {b n : Nat} (hb : E'.w.heap[b]? = E.w.heap[b]?) : ∀ (rs : List (List AV)) (off : Nat), RR E b n off rs → RR E' b n off (rs.map (mapL f))
  | [], _, _ => by simp only [RR, List.map_nil]
  | r :: rs, off, h => by
    simp only [RR, List.map_cons] at h ⊢
    exact ⟨CR.map m hb r off h.1, RR.map m hb rs (off + n) h.2⟩
theorem mapL_get (f : Nat → Option Nat) : ∀ (l : List AV) (j : Nat), (mapL f l)[j]? = (l[j]?).map (mapV f)
  | [], _ => by simp [mapL]
  | v :: l, 0 => by simp [mapL]
  | v :: l, j + 1 => by simpa [mapL] using mapL_get f l j
theorem mapL_len (f : Nat → Option Nat) : ∀ (l : List AV), (mapL f l).length = l.length
  | [] => rfl
  | _ :: l => by simp [mapL, mapL_len f l]
theorem kOk_map {f : Nat → Option Nat} {k : K} {v : AV} (h : kOk k v = true) : kOk k (mapV f v) = true := by
  cases k with
  | any => rfl
  | _ => cases v <;> simp [kOk] at h <;> simp [mapV, kOk, h]
theorem rowOk_map {f : Nat → Option Nat} {sh : List K} {r : List AV} (h : rowOk sh r) : rowOk sh (mapL f r) := by
  refine ⟨by rw [mapL_len]; exact h.1, ?_⟩
  rw [List.all_eq_true]
  intro q hq
  obtain ⟨j, hj⟩ := List.getElem?_of_mem hq
  rw [List.getElem?_zip_eq_some, mapL_get] at hj
  obtain ⟨h1, h2⟩ := hj
  rw [Option.map_eq_some_iff] at h2
  obtain ⟨v, hv, h3⟩ := h2
  rw [← h3]
  exact kOk_map (h.k h1 hv)
theorem OR.map {f : Nat → Option Nat} {E E' : En} (m : Mp f E E') {b c : Nat} (hb : E'.w.heap[b]? = E.w.heap[b]?) : ∀ (ob : AObj), OR E b c ob → OR E' b c (mapO f ob)
  | .box cs, ⟨a, e, h1, h2, h3⟩ => ⟨a, e, by rw [hb]; exact h1, VL.map m cs _ h2, h3⟩
  | .arr md e sh rs, ⟨h0, a, lo, hi, h1, h2, h3, h4, h5, h6, h7⟩ => by
    simp only [mapO, mapRows]
    split
    · rename_i ht
      exact ⟨h0, a, lo, hi, by rw [hb]; exact h1, h2, h3, h4, h5, RR.pure m.st hb rs 0 (fun r hr => row_refs (h5 r hr) (by simp [pureR, ht])) h6, h7⟩
    · refine ⟨h0, a, lo, hi, by rw [hb]; exact h1, h2, by simpa using h3, h4, fun r hr => ?_, RR.map m hb rs 0 h6, h7⟩
      rw [List.mem_map] at hr
      obtain ⟨r', hr', rfl⟩ := hr
      exact rowOk_map (h5 r' hr')
  | .iter s p, h => by simp only [OR, mapO] at h ⊢; rw [hb]; exact h
  | .tb T cs, ⟨a, h1, h2, h3⟩ => ⟨a, by rw [hb]; exact h1, VL.map m cs _ h2, h3⟩
  | .dead, _ => trivial
theorem mapO_mut (f : Nat → Option Nat) (ob : AObj) : (mapO f ob).mut = ob.mut := by cases ob <;> rfl
theorem mapO_cls (f : Nat → Option Nat) (ob : AObj) : (mapO f ob).cls = ob.cls := by cases ob <;> rfl
theorem mapO_dead {f : Nat → Option Nat} {ob : AObj} (h : mapO f ob = .dead) : ob = .dead := by cases ob <;> simp [mapO] at h; rfl
theorem mapO_len {f : Nat → Option Nat} {ob : AObj} {md md' : Nat} {e e' : TypeId} {sh sh' : List K} {rs rs' : List (List AV)} (h : ob = .arr md e sh rs) (k : mapO f ob = .arr md' e' sh' rs') : rs.length = rs'.length := by
  subst h
  simp only [mapO, AObj.arr.injEq] at k
  obtain ⟨_, _, _, rfl⟩ := k
  unfold mapRows
  split <;> simp

/-- Some of the objects, under new numbers. -/
def reE (E : En) (σ : List Nat) (X : Nat → Prop) : En := ⟨fun j => (σ[j]?).bind E.ι, σ.map fun i => mapO (idx · σ) (E.h.getD i .dead), E.w, X⟩
theorem reix_ok {E : En} (s : Sim E) {σ : List Nat} (hσ : σ.Nodup) (X : Nat → Prop) (hX : ∀ b, E.still b → ¬ X b) (hX2 : ∀ i b c, i ∈ σ → E.ι i = some (b, c) → ¬ X b) (hX3 : ∀ b, X b → b < E.w.heap.size) : Sim (reE E σ X) ∧ Mp (idx · σ) E (reE E σ X) ∧ (∀ b, E.quiet b → (reE E σ X).quiet b) := by
  have hι : ∀ j p, (reE E σ X).ι j = some p → ∃ i, σ[j]? = some i ∧ E.ι i = some p := fun j p h => by
    have : (σ[j]?).bind E.ι = some p := h
    rw [Option.bind_eq_some_iff] at this
    exact this
  have hh : ∀ (j : Nat) (ob : AObj), (reE E σ X).h[j]? = some ob → ∃ i, σ[j]? = some i ∧ ob = mapO (idx · σ) (E.h.getD i .dead) := fun j ob h => by
    have : (σ.map fun i => mapO (idx · σ) (E.h.getD i .dead))[j]? = some ob := h
    rw [List.getElem?_map, Option.map_eq_some_iff] at this
    obtain ⟨i, h1, h2⟩ := this
    exact ⟨i, h1, h2.symm⟩
  have hq : ∀ b, E.quiet b → (reE E σ X).quiet b := fun b hb => ⟨hb.1, fun j c ob h1 h2 => by
    obtain ⟨i, hi, h3⟩ := hι j _ h1
    obtain ⟨i', hi', rfl⟩ := hh j ob h2
    rw [hi] at hi'; cases hi'
    rw [mapO_mut]
    have hlt := (s.lt i b c h3).1
    have hg : E.h[i]? = some E.h[i] := List.getElem?_eq_getElem hlt
    rw [List.getD_eq_getElem?_getD, hg]
    exact hb.2 i c _ h3 hg⟩
  have m : Mp (idx · σ) E (reE E σ X) := by
    refine ⟨fun o j ob hf ho => ?_, fun b hb => ⟨⟨hq b hb.1, hX b hb⟩, rfl⟩⟩
    have hg := idx_get hf
    refine ⟨?_, fun p hp => ?_⟩
    · show (σ.map fun i => mapO (idx · σ) (E.h.getD i .dead))[j]? = _
      rw [List.getElem?_map, hg]
      simp [List.getD_eq_getElem?_getD, ho]
    · show (σ[j]?).bind E.ι = some p
      rw [hg]; exact hp
  refine ⟨⟨fun i j b c d hi hj => ?_, fun j b c hj => ?_, fun j b c ob hj ho => ?_, fun j b c hj => ?_, hX3⟩, m, hq⟩
  · obtain ⟨i', h1, h2⟩ := hι i _ hi
    obtain ⟨j', h3, h4⟩ := hι j _ hj
    have : i' = j' := s.inj _ _ _ _ _ h2 h4
    subst this
    have := (idx_of hσ h1).symm.trans (idx_of hσ h3)
    exact Option.some.inj this
  · obtain ⟨i, h1, h2⟩ := hι j _ hj
    exact ⟨by show j < (σ.map _).length; simpa using (List.getElem?_eq_some_iff.1 h1).1, (s.lt i b c h2).2⟩
  · obtain ⟨i, h1, h2⟩ := hι j _ hj
    obtain ⟨i', h3, rfl⟩ := hh j ob ho
    rw [h1] at h3; cases h3
    have hlt := (s.lt i b c h2).1
    have hg : E.h[i]? = some E.h[i] := List.getElem?_eq_getElem hlt
    rw [List.getD_eq_getElem?_getD, hg]
    exact OR.map m rfl _ (s.obj i b c _ h2 hg)
  · obtain ⟨i, h1, h2⟩ := hι j _ hj
    exact hX2 i b c (List.mem_of_getElem? h1) h2

/-! ### Collected -/
theorem collect_nodup (h : List AObj) : ∀ (k : Nat) (todo seen : List Nat), seen.Nodup → (collect h k todo seen).Nodup
  | 0, _, _, hs => hs
  | _ + 1, [], _, hs => hs
  | k + 1, i :: todo, seen, hs => by
    simp only [collect]
    split
    · exact collect_nodup h k todo seen hs
    · rename_i hi
      split
      · refine collect_nodup h k _ _ ?_
        rw [List.nodup_append]
        refine ⟨hs, by simp, fun a ha b hb => ?_⟩
        simp at hb
        subst hb
        intro e
        subst e
        exact idx_none (by simpa using hi) ha
      · exact collect_nodup h k todo seen hs
theorem collect_prefix (h : List AObj) : ∀ (k : Nat) (todo seen : List Nat), ∃ l, collect h k todo seen = seen ++ l
  | 0, _, _ => ⟨[], by simp [collect]⟩
  | _ + 1, [], _ => ⟨[], by simp [collect]⟩
  | k + 1, i :: todo, seen => by
    simp only [collect]
    split
    · exact collect_prefix h k todo seen
    · split
      · obtain ⟨l, hl⟩ := collect_prefix h k (refsO _ ++ todo) (seen ++ [i])
        exact ⟨i :: l, by rw [hl]; simp⟩
      · exact collect_prefix h k todo seen
theorem collect_good (h : List AObj) (G : Nat → Prop) (hG : ∀ i ob, G i → h[i]? = some ob → ∀ j ∈ refsO ob, G j) : ∀ (k : Nat) (todo seen : List Nat), (∀ i ∈ todo, G i) → (∀ i ∈ seen, G i) → ∀ i ∈ collect h k todo seen, G i
  | 0, _, _, _, hs => hs
  | _ + 1, [], _, _, hs => hs
  | k + 1, i :: todo, seen, ht, hs => by
    simp only [collect]
    split
    · exact collect_good h G hG k todo seen (fun j hj => ht j (by simp [hj])) hs
    · split
      · rename_i ob ho
        refine collect_good h G hG k _ _ (fun j hj => ?_) (fun j hj => ?_)
        · rcases List.mem_append.1 hj with hj | hj
          · exact hG i ob (ht i (by simp)) ho j hj
          · exact ht j (by simp [hj])
        · rcases List.mem_append.1 hj with hj | hj
          · exact hs j hj
          · simp at hj; subst hj; exact ht _ (by simp)
      · exact collect_good h G hG k todo seen (fun j hj => ht j (by simp [hj])) hs

/-- What is meant by a reference: it stands somewhere, or is dead. -/
def En.good (E : En) (o : Nat) : Prop := (∃ p, E.ι o = some p) ∨ E.h[o]? = some .dead
mutual
theorem VR.refs {E : En} : ∀ (v : AV) (cv : Value), VR E v cv → ∀ o ∈ refsV v, E.good o
  | .int _ _, _, _ | .bool _, _, _ | .str _, _, _ | .nilp, _, _ | .nils, _, _ | .nilf, _, _ | .nili, _, _ | .gone, _, _ | .rptr _ _ _, _, _ | .row _ _ _, _, _ => by simp [refsV]
  | .ptr o off, cv, h => by
    intro o' ho'
    simp [refsV] at ho'; subst ho'
    simp only [VR] at h
    cases ho : E.h[o']? with
    | none => simp [ho] at h
    | some ob =>
      cases ob <;> simp only [ho] at h <;> try (exact h.elim)
      · obtain ⟨b, c, hι, _⟩ := h; exact .inl ⟨_, hι⟩
      · obtain ⟨b, c, hι, _⟩ := h; exact .inl ⟨_, hι⟩
      · exact .inr ho
      · obtain ⟨b, c, hι, _⟩ := h; exact .inl ⟨_, hι⟩
  | .eptr o i f, cv, h => by
    intro o' ho'
    simp [refsV] at ho'; subst ho'
    simp only [VR] at h
    cases ho : E.h[o']? with
    | none => simp [ho] at h
    | some ob =>
      cases ob <;> simp only [ho] at h <;> try (exact h.elim)
      · obtain ⟨b, c, hι, _⟩ := h; exact .inl ⟨_, hι⟩
      · exact .inr ho
  | .sl o i f, cv, h => by
    intro o' ho'
    simp [refsV] at ho'; subst ho'
    simp only [VR] at h
    cases ho : E.h[o']? with
    | none => simp [ho] at h
    | some ob =>
      cases ob <;> simp only [ho] at h <;> try (exact h.elim)
      · obtain ⟨b, c, cap, hι, _⟩ := h; exact .inl ⟨_, hι⟩
      · exact .inr ho
  | .fn f a b, cv, h => by
    simp only [VR] at h
    obtain ⟨p, q, rfl, h1, h2⟩ := h
    intro o ho
    simp only [refsV] at ho
    rcases List.mem_append.1 ho with ho | ho
    · exact VL.refs a _ h1 o ho
    · exact VL.refs b _ h2 o ho
  | .iface t v, cv, h => by
    simp only [VR] at h
    obtain ⟨u, rfl, h1⟩ := h
    intro o ho
    simp only [refsV] at ho
    exact VR.refs v u h1 o ho
  | .agg cs, cv, h => by
    simp only [VR] at h
    obtain ⟨a, rfl, h1, h2⟩ := h
    intro o ho
    simp only [refsV] at ho
    exact VL.refs cs _ h1 o ho
  | .tup cs, cv, h => by
    simp only [VR] at h
    obtain ⟨a, rfl, h1⟩ := h
    intro o ho
    simp only [refsV] at ho
    exact VL.refs cs _ h1 o ho
theorem VL.refs {E : En} : ∀ (vs : List AV) (cs : List Value), VL E vs cs → ∀ o ∈ refsL vs, E.good o
  | [], _, _ => by simp [refsL]
  | _ :: _, [], h => by simp [VL] at h
  | v :: vs, c :: cs, h => by
    simp only [VL] at h
    intro o ho
    simp only [refsL] at ho
    rcases List.mem_append.1 ho with ho | ho
    · exact VR.refs v c h.1 o ho
    · exact VL.refs vs cs h.2 o ho
end
theorem CR.refs {E : En} {b : Nat} : ∀ (cs : List AV) (off : Nat), CR E b off cs → ∀ o ∈ refsL cs, E.good o
  | [], _, _ => by simp [refsL]
  | c :: cs, off, h => by
    simp only [CR] at h
    obtain ⟨⟨cv, _, _, h3⟩, h4⟩ := h
    intro o ho
    simp only [refsL] at ho
    rcases List.mem_append.1 ho with ho | ho
    · exact VR.refs c cv h3 o ho
    · exact CR.refs cs _ h4 o ho
theorem OR.refs {E : En} {b c : Nat} : ∀ (ob : AObj), OR E b c ob → ∀ o ∈ refsO ob, E.good o
  | .box cs, ⟨a, e, h1, h2, h3⟩ => by intro o ho; exact VL.refs cs _ h2 o ho
  | .arr md e sh rs, ⟨h0, a, lo, hi, h1, h2, h3, h4, h5, h6, h7⟩ => by
    intro o ho
    simp only [refsO] at ho
    split at ho
    · cases ho
    · rw [List.mem_flatMap] at ho
      obtain ⟨r, hr, ho⟩ := ho
      obtain ⟨j, hj⟩ := List.getElem?_of_mem hr
      exact CR.refs r _ (h6.get j r hj) o ho
  | .iter s p, _ => by simp [refsO]
  | .tb T cs, ⟨a, h1, h2, h3⟩ => by intro o ho; exact VL.refs cs _ h2 o ho
  | .dead, _ => by simp [refsO]
theorem Sim.good {E : En} (s : Sim E) : ∀ i ob, E.good i → E.h[i]? = some ob → ∀ j ∈ refsO ob, E.good j := fun i ob hg ho => by
  rcases hg with ⟨⟨b, c⟩, hp⟩ | hd
  · exact OR.refs ob (s.obj i b c ob hp ho)
  · rw [hd] at ho; cases ho; simp [refsO]
end Go.Proofs.YtiemjcchlfbglaaGreatE
/- Slices frozen; calls. -/
namespace Go.Proofs.YtiemjcchlfbglaaGreatE
open Go

theorem roO_roO (ob : AObj) : roO (roO ob) = roO ob := by cases ob <;> rfl
theorem markRo_len : ∀ (l : List Nat) (h : List AObj), (markRo h l).length = h.length
  | [], _ => rfl
  | i :: l, h => by
    simp only [markRo]
    rw [markRo_len l]
    unfold mark1
    split <;> simp
theorem markRo_get : ∀ (l : List Nat) (h : List AObj) (j : Nat), (markRo h l)[j]? = if j ∈ l then (h[j]?).map roO else h[j]?
  | [], _, _ => by simp [markRo]
  | i :: l, h, j => by
    simp only [markRo]
    rw [markRo_get l]
    have hg : (mark1 h i)[j]? = if j = i then (h[j]?).map roO else h[j]? := by
      unfold mark1
      by_cases hij : j = i
      · subst hij
        rw [if_pos rfl]
        cases hj : h[j]? with
        | none => simpa using hj
        | some ob =>
          have hlt := (List.getElem?_eq_some_iff.1 hj).1
          simp [hlt]
      · rw [if_neg hij]
        cases hi : h[i]? with
        | none => rfl
        | some ob => simp [Ne.symm hij]
    rw [hg]
    by_cases hij : j = i
    · subst hij
      simp only [if_true, List.mem_cons, true_or]
      split
      · rw [Option.map_map]; congr 1; funext ob; exact roO_roO ob
      · rfl
    · simp only [hij, if_false, List.mem_cons, false_or]

theorem roO_cls (ob : AObj) : (roO ob).cls = ob.cls := by cases ob <;> rfl
theorem roO_mut {ob : AObj} (h : ob.mut = false) : (roO ob).mut = false := by cases ob <;> first | exact h | rfl
theorem roO_len {ob : AObj} {md md' : Nat} {e e' : TypeId} {sh sh' : List K} {rs rs' : List (List AV)} (h : ob = .arr md e sh rs) (k : roO ob = .arr md' e' sh' rs') : rs.length = rs'.length := by
  subst h
  simp only [roO, AObj.arr.injEq] at k
  rw [k.2.2.2]

def mkE (E : En) (l : List Nat) : En := ⟨E.ι, markRo E.h l, E.w, E.X⟩
theorem mkE_get (E : En) (l : List Nat) {i : Nat} {ob : AObj} (h : (mkE E l).h[i]? = some ob) : ∃ ob0, E.h[i]? = some ob0 ∧ ob = if i ∈ l then roO ob0 else ob0 := by
  have h : (markRo E.h l)[i]? = some ob := h
  rw [markRo_get] at h
  split at h
  · rename_i hi
    rw [Option.map_eq_some_iff] at h
    obtain ⟨ob0, h1, h2⟩ := h
    exact ⟨ob0, h1, by rw [if_pos hi]; exact h2.symm⟩
  · rename_i hi
    exact ⟨ob, h, by rw [if_neg hi]⟩
theorem mark_ok {E : En} (s : Sim E) (l : List Nat) : Sim (mkE E l) ∧ Ext E (mkE E l) := by
  have x : Ext E (mkE E l) := by
    refine ⟨fun i ob hi => ?_, fun b hb => ⟨⟨hb.1, fun i c ob h1 h2 => ?_⟩, rfl⟩, fun j b c h => .inr ⟨j, c, h⟩, Nat.le_refl _, rfl⟩
    · refine ⟨if i ∈ l then roO ob else ob, ?_, .inr ⟨?_, fun p hp => hp, fun _ _ _ _ _ _ _ _ e1 e2 => ?_⟩⟩
      · show (markRo E.h l)[i]? = _
        rw [markRo_get, hi]
        split <;> rfl
      · split
        · exact (roO_cls ob).symm
        · rfl
      · split at e2
        · exact roO_len e1 e2
        · rw [e1] at e2; cases e2; rfl
    · obtain ⟨ob0, h3, rfl⟩ := mkE_get E l h2
      have := hb.2 i c ob0 h1 h3
      split
      · exact roO_mut this
      · exact this
  refine ⟨⟨s.inj, fun i b c hi => ?_, fun i b c ob hi ho => ?_, s.nx, s.xlt⟩, x⟩
  · have := s.lt i b c hi
    exact ⟨by show i < (markRo E.h l).length; rw [markRo_len]; exact this.1, this.2⟩
  · obtain ⟨ob0, h1, rfl⟩ := mkE_get E l ho
    have hor := OR.ext x rfl ob0 (s.obj i b c ob0 hi h1)
    split
    · cases ob0 with
      | arr md e sh rs =>
        obtain ⟨h0, a, lo, hi', k1, k2, k3, k4, k5, k6, _, k8⟩ := hor
        exact ⟨h0, a, lo, hi', k1, k2, k3, k4, k5, k6, fun h => (by cases h), k8⟩
      | _ => exact hor
    · exact hor

theorem rowsPure_row {sh : List K} {rs : List (List AV)} (h : rowsPure sh rs = true) : ∀ r ∈ rs, pureR sh r = true := by
  intro r hr
  unfold rowsPure at h
  unfold pureR
  rw [Bool.or_eq_true] at h ⊢
  rcases h with h | h
  · exact .inl h
  · rw [List.all_eq_true] at h; exact .inr (h r hr)
mutual
theorem fr_ok {E : En} (s : Sim E) {l : List Nat} : ∀ (v : AV) (cv : Value), VR E v cv → (∀ o ∈ slsV v, o ∈ l) → VR (mkE E l) (frV E.h v) cv
  | .int _ _, _, h, _ | .bool _, _, h, _ | .str _, _, h, _ | .nilp, _, h, _ | .nils, _, h, _ | .nilf, _, h, _ | .nili, _, h, _ => by simpa only [VR, frV] using h
  | .gone, _, _, _ => by simp only [VR, frV]
  | .ptr o off, cv, h, _ => by simp only [frV]; exact VR.ext (mark_ok s l).2 _ _ h
  | .eptr o i g, cv, h, _ => by simp only [frV]; exact VR.ext (mark_ok s l).2 _ _ h
  | .rptr sh cs g, cv, h, _ => by simp only [frV]; exact VR.ext (mark_ok s l).2 _ _ h
  | .row nl sh rs, cv, h, _ => by simp only [frV]; exact VR.ext (mark_ok s l).2 _ _ h
  | .sl o off len, cv, h, hl => by
    have hx := VR.ext (mark_ok s l).2 _ _ h
    simp only [frV]
    split
    · rename_i md e sh rs ho
      split
      · rename_i hc
        rw [Bool.and_eq_true] at hc
        obtain ⟨hp, hol⟩ := hc
        have hol : off + len ≤ rs.length := by simpa using hol
        simp only [VR, ho] at h
        obtain ⟨b, c, cap, hι, rfl, hlc, hoc, _⟩ := h
        obtain ⟨h0, a, lo, hi, k1, k2, k3, k4, k5, k6, k7, k8⟩ := OR.ext (mark_ok s l).2 rfl _ (s.obj o b c _ hι ho)
        have hlen : ((rs.drop off).take len).length = len := by simp; omega
        simp only [VR]
        refine ⟨_, cap, by rw [hlen], by rw [hlen]; exact hlc, by omega, fun h => (by cases h), fun _ => (by simp), ?_⟩
        refine .inr ⟨h0, b, off * sh.length, rfl, ⟨⟨(s.lt o b c hι).2, fun i c' ob h1 h2 => ?_⟩, ?_⟩, fun r hr => k5 r (List.mem_of_mem_drop (List.mem_of_mem_take hr)), fun r hr => rowsPure_row hp r (List.mem_of_mem_drop (List.mem_of_mem_take hr)), ?_⟩
        · have : i = o := s.inj i o b c' c h1 hι
          subst this
          obtain ⟨ob0, h3, rfl⟩ := mkE_get E l h2
          rw [ho] at h3; cases h3
          rw [if_pos (hl i (by simp [slsV]))]
          rfl
        · exact s.nx o b c hι
        · have h5 := (k6.drop off).take len
          rw [Nat.zero_add] at h5
          exact h5
      · exact hx
    · exact hx
  | .fn f a b, cv, h, hl => by
    simp only [VR, frV] at h ⊢
    obtain ⟨p, q, rfl, h1, h2⟩ := h
    exact ⟨p, q, rfl, frL_ok s a _ h1 (fun o ho => hl o (by simp [slsV, ho])), frL_ok s b _ h2 (fun o ho => hl o (by simp [slsV, ho]))⟩
  | .iface t v, cv, h, hl => by
    simp only [VR, frV] at h ⊢
    obtain ⟨u, rfl, h1⟩ := h
    exact ⟨u, rfl, fr_ok s v u h1 (fun o ho => hl o (by simpa [slsV] using ho))⟩
  | .agg cs, cv, h, hl => by
    simp only [VR, frV] at h ⊢
    obtain ⟨a, rfl, h1, h2⟩ := h
    exact ⟨a, rfl, frL_ok s cs _ h1 (fun o ho => hl o (by simpa [slsV] using ho)), h2⟩
  | .tup cs, cv, h, hl => by
    simp only [VR, frV] at h ⊢
    obtain ⟨a, rfl, h1⟩ := h
    exact ⟨a, rfl, frL_ok s cs _ h1 (fun o ho => hl o (by simpa [slsV] using ho))⟩
theorem frL_ok {E : En} (s : Sim E) {l : List Nat} : ∀ (vs : List AV) (cs : List Value), VL E vs cs → (∀ o ∈ slsL vs, o ∈ l) → VL (mkE E l) (frL E.h vs) cs
  | [], [], _, _ => by simp only [VL, frL]
  | [], _ :: _, h, _ => by simp [VL] at h
  | _ :: _, [], h, _ => by simp [VL] at h
  | v :: vs, c :: cs, h, hl => by
    simp only [VL, frL] at h ⊢
    exact ⟨fr_ok s v c h.1 (fun o ho => hl o (by simp [slsL, ho])), frL_ok s vs cs h.2 (fun o ho => hl o (by simp [slsL, ho]))⟩
end
end Go.Proofs.YtiemjcchlfbglaaGreatE
/- Calls: the callee gets only the objects that its arguments reach. -/
namespace Go.Proofs.YtiemjcchlfbglaaGreatE
open Go

mutual
theorem sls_refs : ∀ (v : AV) (o : Nat), o ∈ slsV v → o ∈ refsV v
  | .sl o _ _, _, h => by simpa [slsV, refsV] using h
  | .fn _ a b, o, h => by
    simp only [slsV, refsV, List.mem_append] at h ⊢
    rcases h with h | h
    · exact .inl (slsL_refs a o h)
    · exact .inr (slsL_refs b o h)
  | .iface _ v, o, h => by simp only [slsV, refsV] at h ⊢; exact sls_refs v o h
  | .agg cs, o, h => by simp only [slsV, refsV] at h ⊢; exact slsL_refs cs o h
  | .tup cs, o, h => by simp only [slsV, refsV] at h ⊢; exact slsL_refs cs o h
  | .int _ _, _, h | .bool _, _, h | .str _, _, h | .nilp, _, h | .nils, _, h | .nilf, _, h | .nili, _, h | .gone, _, h | .rptr _ _ _, _, h | .row _ _ _, _, h | .ptr _ _, _, h | .eptr _ _ _, _, h => by simp [slsV] at h
theorem slsL_refs : ∀ (l : List AV) (o : Nat), o ∈ slsL l → o ∈ refsL l
  | [], _, h => by simp [slsL] at h
  | v :: l, o, h => by
    simp only [slsL, refsL, List.mem_append] at h ⊢
    rcases h with h | h
    · exact .inl (sls_refs v o h)
    · exact .inr (slsL_refs l o h)
end

theorem collect_lt (h : List AObj) : ∀ (k : Nat) (todo seen : List Nat), (∀ i ∈ seen, i < h.length) → ∀ i ∈ collect h k todo seen, i < h.length
  | 0, _, _, hs => hs
  | _ + 1, [], _, hs => hs
  | k + 1, i :: todo, seen, hs => by
    simp only [collect]
    split
    · exact collect_lt h k todo seen hs
    · split
      · rename_i ob ho
        refine collect_lt h k _ _ fun j hj => ?_
        rcases List.mem_append.1 hj with hj | hj
        · exact hs j hj
        · simp at hj; subst hj; exact (List.getElem?_eq_some_iff.1 ho).1
      · exact collect_lt h k todo seen hs
theorem setMany_len : ∀ (σ : List Nat) (l h : List AObj), (setMany h σ l).length = h.length
  | [], _, _ => by simp [setMany]
  | _ :: _, [], _ => by simp [setMany]
  | i :: σ, ob :: l, h => by simp only [setMany]; rw [setMany_len σ l]; simp
theorem setMany_out : ∀ (σ : List Nat) (l h : List AObj) (i : Nat), i ∉ σ → (setMany h σ l)[i]? = h[i]?
  | [], _, _, _, _ => by simp [setMany]
  | _ :: _, [], _, _, _ => by simp [setMany]
  | x :: σ, ob :: l, h, i, hi => by
    simp only [List.mem_cons, not_or] at hi
    simp only [setMany]
    rw [setMany_out σ l _ i hi.2, List.getElem?_set, if_neg (Ne.symm hi.1)]
theorem setMany_in : ∀ (σ : List Nat) (l h : List AObj) (i j : Nat), σ.Nodup → l.length = σ.length → (∀ x ∈ σ, x < h.length) → σ[j]? = some i → (setMany h σ l)[i]? = l[j]?
  | [], _, _, _, _, _, _, _, hj => by simp at hj
  | _ :: _, [], _, _, _, _, hl, _, _ => by simp at hl
  | x :: σ, ob :: l, h, i, j, hn, hl, hlt, hj => by
    rw [List.nodup_cons] at hn
    simp only [setMany]
    cases j with
    | zero =>
      simp at hj; subst hj
      rw [setMany_out σ l _ x hn.1]
      simp [hlt x (by simp)]
    | succ j =>
      simp at hj
      rw [setMany_in σ l (h.set x ob) i j hn.2 (by simpa using hl) (fun y hy => by simpa using hlt y (by simp [hy])) hj]
      simp

section
variable {E : En}
theorem nl1_ok {sh : List K} {v : AV} {cv : Value} (h : VR E v cv) : VR E (nl1 sh v) cv := by
  unfold nl1
  split
  · split
    · exact h
    · simp only [VR] at h ⊢
      exact ⟨none, 0, by simpa using h, by simp, by simp [maxLen], fun _ => ⟨rfl, rfl⟩, fun h => by simp at h, .inl trivial⟩
  · exact h
theorem nlL_ok : ∀ {hs : List (List K)} {l : List AV} {cs : List Value}, VL E l cs → VL E (nlL hs l) cs
  | [], l, cs, h => by cases l <;> simpa only [nlL] using h
  | sh :: hs, [], cs, h => by simpa only [nlL] using h
  | sh :: hs, v :: l, c :: cs, h => by simp only [VL] at h; simp only [nlL, VL]; exact ⟨nl1_ok h.1, nlL_ok h.2⟩
  | sh :: hs, v :: l, [], h => by simp [VL] at h
theorem nlC_ok {hs : List (List K)} {v : AV} {cv : Value} (h : VR E v cv) : VR E (nlC hs v) cv := by
  unfold nlC
  split
  · simp only [VR] at h ⊢
    obtain ⟨a, h1, h2, h3⟩ := h
    exact ⟨a, h1, nlL_ok h2, h3⟩
  · exact nl1_ok h
theorem nlT_ok : ∀ {hss : List (List (List K))} {l : List AV} {cs : List Value}, VL E l cs → VL E (nlT hss l) cs
  | [], l, cs, h => by cases l <;> simpa only [nlT] using h
  | sh :: hs, [], cs, h => by simpa only [nlT] using h
  | sh :: hs, v :: l, c :: cs, h => by simp only [VL] at h; simp only [nlT, VL]; exact ⟨nlC_ok h.1, nlT_ok h.2⟩
  | sh :: hs, v :: l, [], h => by simp [VL] at h
theorem nlV_ok {hss : List (List (List K))} {v : AV} {cv : Value} (h : VR E v cv) : VR E (nlV hss v) cv := by
  unfold nlV
  split
  · simp only [VR] at h ⊢
    obtain ⟨a, h1, h2⟩ := h
    exact ⟨a, h1, nlT_ok h2⟩
  · exact nlC_ok h
end
/-- What a call of the interpreter's answers for. -/
def SoundF (P : Program) (F : CallF) : Prop := ∀ g args h v h', F g args h = some (v, h') → ∀ E : En, E.h = h → Sim E → ∀ cargs : Array Value, VL E args cargs.toList →
  Calls P g cargs E.w fun e w' => ∃ cv ι', e = .returned cv ∧ Sim ⟨ι', h', w', E.X⟩ ∧ Ext E ⟨ι', h', w', E.X⟩ ∧ Wd E.w w' ∧ VR ⟨ι', h', w', E.X⟩ v cv

theorem roO_dead {ob : AObj} (h : roO ob = .dead) : ob = .dead := by cases ob <;> simp [roO] at h; rfl

theorem call_ok {P : Program} {F : CallF} (hF : SoundF P F) {E : En} (s : Sim E) {g : FuncId} {args : List AV} {cargs : Array Value} {v : AV} {h' : List AObj} (hargs : VL E args cargs.toList) {fz : Fz} (h : callA F fz E.h g args = some (v, h')) :
    Calls P g cargs E.w fun e w' => ∃ cv ι', e = .returned cv ∧ Sim ⟨ι', h', w', E.X⟩ ∧ Ext E ⟨ι', h', w', E.X⟩ ∧ Wd E.w w' ∧ VR ⟨ι', h', w', E.X⟩ v cv ∧
      (∀ i ob, E.ι i = none → E.h[i]? = some ob → ob ≠ .dead → ι' i = none ∧ h'[i]? = some ob) ∧ (∀ i, i ∉ sig fz E.h args → i < E.h.length → (h'[i]?).map roO = (E.h[i]?).map roO) := by
  unfold callA at h
  split at h
  · rename_i v0 h2 hrun
    split at h
    · rename_i hkm
      cases h
      -- frozen
      obtain ⟨E1, s1, x1, hargs1, hh1, hn1, hι1, hw1, hX1, hkeep, hro⟩ : ∃ E1 : En, Sim E1 ∧ Ext E E1 ∧ VL E1 (argsF fz E.h args) cargs.toList ∧ heapF fz E.h args = E1.h ∧ E1.h.length = E.h.length ∧ E1.ι = E.ι ∧ E1.w = E.w ∧ E1.X = E.X ∧
          (∀ (i : Nat) (ob : AObj), E.ι i = none → E.h[i]? = some ob → ob ≠ .dead → E1.h[i]? = some ob) ∧ (∀ i : Nat, (E1.h[i]?).map roO = (E.h[i]?).map roO) := by
        cases fz with
        | none => exact ⟨E, s, Ext.refl E, hargs, rfl, rfl, rfl, rfl, rfl, fun _ _ _ ho _ => ho, fun _ => rfl⟩
        | some hss =>
          obtain ⟨s1, x1⟩ := mark_ok s (slsL args)
          refine ⟨mkE E (slsL args), s1, x1, nlT_ok (frL_ok s args _ hargs (fun o ho => ho)), rfl, markRo_len _ _, rfl, rfl, rfl, fun i ob hi ho hd => ?_, fun i => ?_⟩
          · have hns : i ∉ slsL args := fun hm => by
              rcases VL.refs args _ hargs i (slsL_refs args i hm) with ⟨p, hp⟩ | hp
              · rw [hi] at hp; cases hp
              · rw [ho] at hp; exact hd (Option.some.inj hp)
            show (markRo E.h (slsL args))[i]? = _
            rw [markRo_get, if_neg hns]; exact ho
          · show ((markRo E.h (slsL args))[i]?).map roO = _
            rw [markRo_get]
            split
            · rw [Option.map_map]; congr 1; funext ob; exact roO_roO ob
            · rfl
      have hnod : (sig fz E.h args).Nodup := collect_nodup _ _ _ _ (by simp)
      have hsl : ∀ i ∈ sig fz E.h args, i < E.h.length := fun i hi => by
        have := collect_lt (heapF fz E.h args) 1000 (refsL (argsF fz E.h args)) [] (by simp) i hi
        rw [hh1, hn1] at this; exact this
      have hgood : ∀ i ∈ sig fz E.h args, E1.good i := by
        have := collect_good (heapF fz E.h args) E1.good (by rw [hh1]; exact s1.good) 1000 (refsL (argsF fz E.h args)) [] (VL.refs _ _ hargs1) (by simp)
        exact this
      rw [hh1] at hrun ⊢
      generalize hσ : sig fz E.h args = σ at *
      have hXc : ∀ b, E1.still b → ¬ (E.X b ∨ ∃ i c ob, E.ι i = some (b, c) ∧ E1.h[i]? = some ob ∧ ob.mut = true ∧ i ∉ σ) := fun b hb hx => by
        rcases hx with hx | ⟨i, c, ob, h1, h2, h3, _⟩
        · exact hb.2 (by rw [hX1]; exact hx)
        · have := hb.1.2 i c ob (by rw [hι1]; exact h1) h2
          rw [h3] at this; cases this
      obtain ⟨sc, mc, qc⟩ := reix_ok s1 hnod (fun b => E.X b ∨ ∃ i c ob, E.ι i = some (b, c) ∧ E1.h[i]? = some ob ∧ ob.mut = true ∧ i ∉ σ) hXc
        (fun i b c hi hib hx => by
          rw [hι1] at hib
          rcases hx with hx | ⟨i', c', ob, h1, _, _, h4⟩
          · exact s.nx i b c hib hx
          · exact h4 (by rw [s.inj i' i b c' c h1 hib]; exact hi))
        (fun b hx => by
          rw [hw1]
          rcases hx with hx | ⟨i', c', ob, h1, _⟩
          · exact s.xlt b hx
          · exact (s.lt i' b c' h1).2)
      have hargsc := VL.map mc _ _ hargs1
      have hcall := hF g _ _ v0 h2 hrun _ rfl sc cargs hargsc
      have hwc : (reE E1 σ (fun b => E.X b ∨ ∃ i c ob, E.ι i = some (b, c) ∧ E1.h[i]? = some ob ∧ ob.mut = true ∧ i ∉ σ)).w = E.w := hw1
      rw [hwc] at hcall
      refine hcall.mono ?_
      rintro e w2 ⟨cv, ι2, rfl, s2, x2, wd, hv⟩
      -- back
      let Xc : Nat → Prop := fun b => E.X b ∨ ∃ i c ob, E.ι i = some (b, c) ∧ E1.h[i]? = some ob ∧ ob.mut = true ∧ i ∉ σ
      let E2 : En := ⟨ι2, h2, w2, Xc⟩
      let τ := backTo E.h.length σ h2.length
      let hh := setMany E1.h σ ((h2.take σ.length).map (mapO τ)) ++ (h2.drop σ.length).map (mapO τ)
      let ι' : Nat → Option (Nat × Nat) := fun i => if i < E.h.length then (match idx i σ with | some j => ι2 j | none => E.ι i) else ι2 (i - E.h.length + σ.length)
      have hlenS : (setMany E1.h σ ((h2.take σ.length).map (mapO τ))).length = E.h.length := by rw [setMany_len, hn1]
      have hA : ∀ i, i < E.h.length → i ∉ σ → hh[i]? = E1.h[i]? ∧ ι' i = E.ι i := fun i hi hni => by
        refine ⟨?_, ?_⟩
        · show (setMany _ _ _ ++ _)[i]? = _
          rw [List.getElem?_append, if_pos (by rw [hlenS]; exact hi), setMany_out _ _ _ _ hni]
        · show (if i < E.h.length then _ else _) = _
          rw [if_pos hi]
          cases hx : idx i σ with
          | none => rfl
          | some j => exact absurd (List.mem_of_getElem? (idx_get hx)) hni
      have hB : ∀ i j, τ j = some i → hh[i]? = (h2[j]?).map (mapO τ) ∧ ι' i = ι2 j ∧ j < h2.length := fun i j hj => by
        have hj : backTo E.h.length σ h2.length j = some i := hj
        unfold backTo at hj
        split at hj
        · rename_i i' hi'
          cases hj
          have hjl : j < σ.length := (List.getElem?_eq_some_iff.1 hi').1
          have hil := hsl i (List.mem_of_getElem? hi')
          refine ⟨?_, ?_, by omega⟩
          · show (setMany _ _ _ ++ _)[i]? = _
            rw [List.getElem?_append, if_pos (by rw [hlenS]; exact hil), setMany_in σ _ _ i j hnod (by simp; omega) (fun x hx => by rw [hn1]; exact hsl x hx) hi', List.getElem?_map, List.getElem?_take, if_pos hjl]
          · show (if i < E.h.length then _ else _) = _
            rw [if_pos hil, idx_of hnod hi']
        · rename_i hnone
          split at hj
          · rename_i hjm
            cases hj
            have hjl : σ.length ≤ j := by simpa using hnone
            refine ⟨?_, ?_, hjm⟩
            · show (setMany _ _ _ ++ _)[_]? = _
              rw [List.getElem?_append, if_neg (by rw [hlenS]; omega), hlenS, List.getElem?_map, List.getElem?_drop]
              congr 2
              omega
            · show (if _ < E.h.length then _ else _) = _
              rw [if_neg (by omega)]
              congr 1
              omega
          · cases hj
      have hcase : ∀ i p, ι' i = some p → (i < E.h.length ∧ i ∉ σ) ∨ ∃ j, τ j = some i := fun i p hp => by
        by_cases hi : i < E.h.length
        · by_cases hm : i ∈ σ
          · right
            obtain ⟨j, hj⟩ := List.getElem?_of_mem hm
            exact ⟨j, by show backTo _ _ _ j = _; unfold backTo; rw [hj]⟩
          · exact .inl ⟨hi, hm⟩
        · right
          have hp : (if i < E.h.length then (match idx i σ with | some j => ι2 j | none => E.ι i) else ι2 (i - E.h.length + σ.length)) = some p := hp
          rw [if_neg hi] at hp
          have := (s2.lt _ p.1 p.2 hp).1
          refine ⟨i - E.h.length + σ.length, ?_⟩
          show backTo _ _ _ _ = _
          unfold backTo
          have hnone : σ[i - E.h.length + σ.length]? = none := by simp
          rw [hnone]
          simp only
          rw [if_pos this]
          congr 1
          omega
      have hτinj : ∀ i j j', τ j = some i → τ j' = some i → ι2 j = ι2 j' := fun i j j' h1 h2' => by
        rw [← (hB i j h1).2.1, (hB i j' h2').2.1]
      have hιc : ∀ j p, (reE E1 σ Xc).ι j = some p → ∃ i, σ[j]? = some i ∧ E.ι i = some p := fun j p hp => by
        have hp : (σ[j]?).bind E1.ι = some p := hp
        rw [Option.bind_eq_some_iff, hι1] at hp
        exact hp
      have hqA : ∀ b, (∀ o c ob, E2.ι o = some (b, c) → E2.h[o]? = some ob → ob.mut = false) → (∀ i c ob, i ∉ σ → E.ι i = some (b, c) → E1.h[i]? = some ob → ob.mut = false) → b < w2.heap.size → (⟨ι', hh, w2, E.X⟩ : En).quiet b := fun b hq2 hq1 hb => by
        refine ⟨hb, fun i c ob hi ho => ?_⟩
        rcases hcase i _ hi with ⟨h1, h3⟩ | ⟨j, hj⟩
        · obtain ⟨k1, k2⟩ := hA i h1 h3
          exact hq1 i c ob h3 (k2.symm.trans hi) (k1.symm.trans ho)
        · obtain ⟨k1, k2, k3⟩ := hB i j hj
          have ho' : (h2[j]?).map (mapO τ) = some ob := k1.symm.trans ho
          rw [Option.map_eq_some_iff] at ho'
          obtain ⟨ob2, h4, rfl⟩ := ho'
          rw [mapO_mut]
          exact hq2 j c ob2 (k2.symm.trans hi) h4
      have mp : Mp τ E2 ⟨ι', hh, w2, E.X⟩ := by
        refine ⟨fun o j ob hf ho => ?_, fun b hb => ⟨⟨hqA b hb.1.2 (fun i c ob hi h1 h3 => ?_) hb.1.1, fun hx => hb.2 (.inl hx)⟩, rfl⟩⟩
        · obtain ⟨k1, k2, _⟩ := hB j o hf
          refine ⟨?_, fun p hp => k2.trans hp⟩
          show hh[j]? = _
          rw [k1]
          have ho : h2[o]? = some ob := ho
          rw [ho]; rfl
        · cases hm : ob.mut with
          | false => rfl
          | true => exact absurd (.inr ⟨i, c, ob, h1, h3, hm, hi⟩) hb.2
      have x : Ext E ⟨ι', hh, w2, E.X⟩ := by
        refine ⟨fun i ob ho => ?_, fun b hb => ?_, fun i b c hi => ?_, wd.size, rfl⟩
        · have hil : i < E.h.length := (List.getElem?_eq_some_iff.1 ho).1
          obtain ⟨ob1, k1, kd⟩ := x1.cls i ob ho
          by_cases hm : i ∈ σ
          · obtain ⟨j, hj⟩ := List.getElem?_of_mem hm
            have hτj : τ j = some i := by show backTo _ _ _ j = _; unfold backTo; rw [hj]
            obtain ⟨m1, m2, m3⟩ := hB i j hτj
            have hcj : (reE E1 σ Xc).h[j]? = some (mapO (idx · σ) ob1) := by
              show (σ.map fun i => mapO (idx · σ) (E1.h.getD i .dead))[j]? = _
              rw [List.getElem?_map, hj]
              simp [List.getD_eq_getElem?_getD, k1]
            obtain ⟨ob2, n1, nd⟩ := x2.cls j _ hcj
            have n1 : h2[j]? = some ob2 := n1
            refine ⟨mapO τ ob2, by show hh[i]? = _; rw [m1, n1]; rfl, ?_⟩
            rcases nd with rfl | ⟨c1, c2, c3⟩
            · exact .inl rfl
            · rcases kd with rfl | ⟨d1, d2, d3⟩
              · left
                simp only [mapO] at c1
                rw [cls_dead c1]; rfl
              · refine .inr ⟨by rw [mapO_cls, ← c1, mapO_cls]; exact d1, fun p hp => ?_, fun md e sh rs md' e' sh' rs' e1 e2 => ?_⟩
                · show ι' i = some p
                  rw [m2]
                  refine c2 p ?_
                  show (σ[j]?).bind E1.ι = some p
                  rw [hj, hι1]; exact hp
                · subst e1
                  obtain ⟨md1, e1', rs1, rfl⟩ := cls_arr d1
                  have l1 := d3 _ _ _ _ _ _ _ _ rfl rfl
                  obtain ⟨md2, e2', rs2, rfl⟩ := cls_arr (c1 : (AObj.arr md1 e1' sh _).cls = ob2.cls)
                  have l2 := c3 _ _ _ _ _ _ _ _ rfl rfl
                  have l3 := mapO_len rfl e2
                  have l0 : (mapRows (idx · σ) sh rs1).length = rs1.length := by unfold mapRows; split <;> simp
                  omega
          · obtain ⟨m1, m2⟩ := hA i hil hm
            refine ⟨ob1, by show hh[i]? = _; rw [m1]; exact k1, ?_⟩
            rcases kd with kd | ⟨d1, d2, d3⟩
            · exact .inl kd
            · exact .inr ⟨d1, fun p hp => m2.trans hp, d3⟩
        · have q1 := (x1.st b hb).1
          have q2 := x2.st b (qc b q1)
          refine ⟨hqA b q2.1.2 (fun i c ob _ h1 h3 => q1.2 i c ob (by rw [hι1]; exact h1) h3) q2.1.1, ?_⟩
          have := q2.2
          rw [hwc] at this
          exact this
        · rcases hcase i _ hi with ⟨h1, h3⟩ | ⟨j, hj⟩
          · exact .inr ⟨i, c, (hA i h1 h3).2.symm.trans hi⟩
          · rcases x2.rng j b c ((hB i j hj).2.1.symm.trans hi) with h4 | ⟨j', d, h4⟩
            · exact .inl (by rw [hwc] at h4; exact h4)
            · obtain ⟨i', _, h6⟩ := hιc j' _ h4
              exact .inr ⟨i', d, h6⟩
      have hsim : Sim ⟨ι', hh, w2, E.X⟩ := by
        have cross : ∀ i j b c d, i ∉ σ → E.ι i = some (b, c) → ι2 j = some (b, d) → False := fun i j b c d hi h1 h3 => by
          rcases x2.rng j b d h3 with h4 | ⟨j', d', h4⟩
          · rw [hwc] at h4
            have := (s.lt i b c h1).2
            omega
          · obtain ⟨i', h5, h6⟩ := hιc j' _ h4
            have := s.inj i' i b d' c h6 h1
            subst this
            exact hi (List.mem_of_getElem? h5)
        refine ⟨fun i j b c d hi hj => ?_, fun i b c hi => ?_, fun i b c ob hi ho => ?_, fun i b c hi hx => ?_, fun b hb => Nat.lt_of_lt_of_le (s.xlt b hb) wd.size⟩
        · have hi : ι' i = some (b, c) := hi
          have hj : ι' j = some (b, d) := hj
          rcases hcase i _ hi with ⟨h1, h3⟩ | ⟨i', hi'⟩ <;> rcases hcase j _ hj with ⟨k1, k3⟩ | ⟨j', hj'⟩
          · rw [(hA i h1 h3).2] at hi; rw [(hA j k1 k3).2] at hj
            exact s.inj i j b c d hi hj
          · rw [(hA i h1 h3).2] at hi; rw [(hB j j' hj').2.1] at hj
            exact (cross i j' b c d h3 hi hj).elim
          · rw [(hB i i' hi').2.1] at hi; rw [(hA j k1 k3).2] at hj
            exact (cross j i' b d c k3 hj hi).elim
          · rw [(hB i i' hi').2.1] at hi; rw [(hB j j' hj').2.1] at hj
            have := s2.inj i' j' b c d hi hj
            subst this
            rw [hi'] at hj'; exact Option.some.inj hj'
        · have hi : ι' i = some (b, c) := hi
          rcases hcase i _ hi with ⟨h1, h3⟩ | ⟨j, hj⟩
          · rw [(hA i h1 h3).2] at hi
            refine ⟨?_, Nat.lt_of_lt_of_le (s.lt i b c hi).2 wd.size⟩
            show i < (setMany _ _ _ ++ _).length
            rw [List.length_append, hlenS]; omega
          · obtain ⟨k1, k2, k3⟩ := hB i j hj
            rw [k2] at hi
            refine ⟨?_, (s2.lt j b c hi).2⟩
            have : hh[i]? = some (mapO τ h2[j]) := by rw [k1, List.getElem?_eq_getElem k3]; rfl
            exact (List.getElem?_eq_some_iff.1 this).1
        · have hi : ι' i = some (b, c) := hi
          have ho : hh[i]? = some ob := ho
          rcases hcase i _ hi with ⟨h1, h3⟩ | ⟨j, hj⟩
          · rw [(hA i h1 h3).2] at hi; rw [(hA i h1 h3).1] at ho
            have hor := s1.obj i b c ob (by rw [hι1]; exact hi) ho
            -- the block is quiet for the callee
            have hqc : (reE E1 σ Xc).quiet b := ⟨by rw [hwc]; exact (s.lt i b c hi).2, fun j' c' ob' h4 _ => by
              obtain ⟨i', h5, h6⟩ := hιc j' _ h4
              have := s.inj i' i b c' c h6 hi
              subst this
              exact absurd (List.mem_of_getElem? h5) h3⟩
            have hblk := (x2.st b hqc).2
            rw [hwc] at hblk
            have hx1 : Ext E1 ⟨ι', hh, w2, E.X⟩ := by
              refine ⟨fun i ob ho => ?_, fun b hb => ?_, fun i b c hi => ?_, by rw [hw1]; exact wd.size, hX1.symm⟩
              · have hil : i < E.h.length := by rw [← hn1]; exact (List.getElem?_eq_some_iff.1 ho).1
                by_cases hm : i ∈ σ
                · obtain ⟨j, hj⟩ := List.getElem?_of_mem hm
                  have hτj : τ j = some i := by show backTo _ _ _ j = _; unfold backTo; rw [hj]
                  obtain ⟨m1, m2, m3⟩ := hB i j hτj
                  have hcj : (reE E1 σ Xc).h[j]? = some (mapO (idx · σ) ob) := by
                    show (σ.map fun i => mapO (idx · σ) (E1.h.getD i .dead))[j]? = _
                    rw [List.getElem?_map, hj]
                    simp [List.getD_eq_getElem?_getD, ho]
                  obtain ⟨ob2, n1, nd⟩ := x2.cls j _ hcj
                  have n1 : h2[j]? = some ob2 := n1
                  refine ⟨mapO τ ob2, by show hh[i]? = _; rw [m1, n1]; rfl, ?_⟩
                  rcases nd with rfl | ⟨c1, c2, c3⟩
                  · exact .inl rfl
                  · refine .inr ⟨by rw [mapO_cls, ← c1, mapO_cls], fun p hp => ?_, fun md e sh rs md' e' sh' rs' e1 e2 => ?_⟩
                    · show ι' i = some p
                      rw [m2]
                      refine c2 p ?_
                      show (σ[j]?).bind E1.ι = some p
                      rw [hj]; exact hp
                    · subst e1
                      obtain ⟨md2, e2', rs2, rfl⟩ := cls_arr (c1 : (AObj.arr md e sh _).cls = ob2.cls)
                      have l2 := c3 _ _ _ _ _ _ _ _ rfl rfl
                      have l3 := mapO_len rfl e2
                      have l0 : (mapRows (idx · σ) sh rs).length = rs.length := by unfold mapRows; split <;> simp
                      omega
                · obtain ⟨m1, m2⟩ := hA i hil hm
                  exact ⟨ob, by show hh[i]? = _; rw [m1]; exact ho, .inr ⟨rfl, fun p hp => m2.trans (by rw [← hι1]; exact hp), fun _ _ _ _ _ _ _ _ e1 e2 => (by rw [e1] at e2; cases e2; rfl)⟩⟩
              · have q2 := x2.st b (qc b hb)
                refine ⟨hqA b q2.1.2 (fun i c ob _ h1 h3 => hb.2 i c ob (by rw [hι1]; exact h1) h3) q2.1.1, ?_⟩
                have := q2.2
                rw [hwc] at this
                rw [hw1]
                exact this
              · rcases x.rng i b c hi with h | ⟨i', d, h⟩
                · exact .inl (by rw [hw1]; exact h)
                · exact .inr ⟨i', d, by rw [hι1]; exact h⟩
            exact OR.ext hx1 (by rw [hw1]; exact hblk) ob hor
          · obtain ⟨k1, k2, k3⟩ := hB i j hj
            rw [k2] at hi
            rw [k1, Option.map_eq_some_iff] at ho
            obtain ⟨ob2, h4, rfl⟩ := ho
            exact OR.map mp rfl ob2 (s2.obj j b c ob2 hi h4)
        · have hi : ι' i = some (b, c) := hi
          rcases hcase i _ hi with ⟨h1, h3⟩ | ⟨j, hj⟩
          · rw [(hA i h1 h3).2] at hi
            exact s.nx i b c hi hx
          · rw [(hB i j hj).2.1] at hi
            exact s2.nx j b c hi (.inl hx)
      refine ⟨cv, ι', rfl, hsim, x, wd, VR.map mp v0 cv hv, fun i ob hi ho hd => ?_, fun i hi hil => ?_⟩
      · have hil : i < E.h.length := (List.getElem?_eq_some_iff.1 ho).1
        have h1i : E1.h[i]? = some ob := hkeep i ob hi ho hd
        have hni : i ∉ σ := fun hm => by
          rcases hgood i hm with ⟨p, hp⟩ | hp
          · rw [hι1, hi] at hp; cases hp
          · rw [h1i] at hp; exact hd (Option.some.inj hp)
        obtain ⟨m1, m2⟩ := hA i hil hni
        exact ⟨m2.trans hi, m1.trans h1i⟩
      · obtain ⟨m1, _⟩ := hA i hil hi
        show (hh[i]?).map roO = _
        rw [m1]
        exact hro i
    · cases h
  · cases h
end Go.Proofs.YtiemjcchlfbglaaGreatE
/- One operation; a region in the text's order. -/
namespace Go.Proofs.YtiemjcchlfbglaaGreatE
open Go

/-- What is asked of the program. -/
def okProg (P : Program) : Bool := P.follows .mixedOrders && P.funcs.all fun fn => fn.body.isNone || !(fn.name == "runtime.NumGoroutine")

theorem run_callFunc {P : Program} (hP : okProg P = true) {g : FuncId} (hb : bodied P g = true) (args : Array Value) (w : World) : (callFunc g args).run P w = .ok (.enter g args) w := by
  unfold bodied at hb
  unfold okProg at hP
  rw [Bool.and_eq_true, Array.all_eq_true] at hP
  cases hg : P.funcs[g]? with
  | none => simp [hg] at hb
  | some fn =>
    simp only [hg] at hb
    obtain ⟨hlt, he⟩ := Array.getElem?_eq_some_iff.1 hg
    have h2 := hP.2 g hlt
    rw [he] at h2
    have hn : fn.body.isNone = false := by cases hf : fn.body <;> simp [hf] at hb ⊢
    rw [hn, Bool.false_or] at h2
    have h3 : fn.name ≠ "runtime.NumGoroutine" := by simpa using h2
    have h4 : fn.body ≠ none := fun e => by simp [e] at hb
    simp [callFunc, hg, h3, h4]

section
variable {C : Ctx} {E : En}

structure Aft (C : Ctx) (E : En) (t : List AV) (o : Oper) (v : AV) (h' : List AObj) (cv : Value) (w' : World) (ι' : Nat → Option (Nat × Nat)) : Prop where
  sim : Sim ⟨ι', h', w', E.X⟩
  ext : Ext E ⟨ι', h', w', E.X⟩
  wd : Wd E.w w'
  vr : VR ⟨ι', h', w', E.X⟩ v cv
  unt : ∀ i ob, E.ι i = none → E.h[i]? = some ob → ob ≠ .dead → ι' i = none ∧ h'[i]? = some ob
  tch : ∀ i, i ∉ touched C (ev t) E.h o → i < E.h.length → (h'[i]?).map roO = (E.h[i]?).map roO

theorem storeA_out {P : Program} {h h' : List AObj} {t : TypeId} {p v : AV} (hs : storeA P h t p v = some h') : ∃ o ob ob', (p = .ptr o 0 ∨ (∃ off, p = .ptr o off) ∨ ∃ i f, p = .eptr o i f) ∧ h[o]? = some ob ∧ ob ≠ .dead ∧ h' = h.set o ob' := by
  unfold storeA at hs
  split at hs
  · split at hs
    · split at hs
      · split at hs
        · rename_i ho
          split at hs
          · cases hs; exact ⟨_, _, _, .inr (.inl ⟨_, rfl⟩), ho, by simp, rfl⟩
          · cases hs
        · rename_i ho
          split at hs
          · cases hs; exact ⟨_, _, _, .inr (.inl ⟨_, rfl⟩), ho, by simp, rfl⟩
          · cases hs
        · cases hs
      · split at hs
        · rename_i ho
          split at hs
          · cases hs; exact ⟨_, _, _, .inr (.inr ⟨_, _, rfl⟩), ho, by simp, rfl⟩
          · cases hs
        · cases hs
      · cases hs
    · cases hs
  · cases hs

theorem copyA_out {P : Program} {h h' : List AObj} {ts : List TypeId} {d x v : AV} (hs : copyA P h ts d x = some (v, h')) : ∃ o off len ob ob', d = .sl o off len ∧ h[o]? = some ob ∧ ob ≠ .dead ∧ h' = h.set o ob' := by
  unfold copyA at hs
  split at hs
  · split at hs
    · split at hs
      · split at hs
        · split at hs
          · rename_i ho
            split at hs
            · split at hs
              · split at hs
                · cases hs
                  exact ⟨_, _, _, _, _, rfl, ho, by simp, rfl⟩
                · cases hs
              · cases hs
            · cases hs
          · cases hs
        · cases hs
      · cases hs
    · cases hs
  · cases hs

theorem wr_ok (hP : okProg C.P = true) (hF : SoundF C.P C.F) {t : List AV} {a : Act} {o : Oper} {v : AV} {h' : List AObj} (s : Sim E) (ht : VL E t a.tmps.toList) (h : wrA C (ev t) E.h o = some (v, h'))
    {K : Act → World → Prop} {Q : Exit → Act → World → Prop} (hK : ∀ cv w' ι', Aft C E t o v h' cv w' ι' → K (a.put o.dst cv) w') : o.wp C.P a E.w K Q := by
  have hv := fun x => ev_ok ht x
  unfold Oper.wp
  have hcall : ∀ g args cargs, bodied C.P g = true → callA C.F (C.fz g) E.h g args = some (v, h') → VL E args cargs.toList → (execOp a.eval o).run C.P E.w = (callFunc g cargs).run C.P E.w → touched C (ev t) E.h o = sig (C.fz g) E.h args → o.upon C.P a K Q ((execOp a.eval o).run C.P E.w) := by
    intro g args cargs hb hc hargs hrun htch
    rw [hrun, run_callFunc hP hb, Oper.upon_enter]
    refine (call_ok hF s hargs hc).mono ?_
    rintro e w' ⟨cv, ι', rfl, h1, h2, h3, h4, h5, h6⟩
    exact hK cv w' ι' ⟨h1, h2, h3, h4, h5, by rw [htch]; exact h6⟩
  unfold wrA at h
  split at h
  · rename_i ty p x hop
    rw [Option.map_eq_some_iff] at h
    obtain ⟨h2, hs, he⟩ := h
    cases he
    obtain ⟨w', g1, g2, g3, g4⟩ := store_ok (P := C.P) s (hv p) (hv x) hs
    have hr : (execOp a.eval o).run C.P E.w = .ok .skip w' := by simp [execOp, hop, g1]
    rw [hr, Oper.upon_skip]
    obtain ⟨q, ob, ob', hp, ho, hd, rfl⟩ := storeA_out hs
    have hq : touched C (ev t) E.h o = [q] := by
      unfold touched
      rw [hop]
      rcases hp with hp | ⟨_, hp⟩ | ⟨_, _, hp⟩ <;> simp [hp]
    refine hK undef w' E.ι ⟨g2, g3, g4, by simp [AV.undef, undef, VR, VL], fun i obi hi hoi hdi => ⟨hi, ?_⟩, fun i hi hil => ?_⟩
    · have hne : i ≠ q := fun e => by
        subst e
        have hpr := hv p
        rcases VR.refs _ _ hpr i (by rcases hp with hp | ⟨_, hp⟩ | ⟨_, _, hp⟩ <;> simp [hp, refsV]) with ⟨z, hz⟩ | hz
        · rw [hi] at hz; cases hz
        · rw [hoi] at hz; exact hdi (Option.some.inj hz)
      rw [List.getElem?_set, if_neg (Ne.symm hne)]; exact hoi
    · rw [hq] at hi
      rw [List.getElem?_set, if_neg (fun e => hi (by simp [e]))]
  · rename_i it hop
    have hr2 := next_ok (P := C.P) (ty := o.type) s (hv it) h
    obtain ⟨cv, w', g1, g2, g3, g4, g5⟩ := hr2
    have hr : (execOp a.eval o).run C.P E.w = .ok (.value cv) w' := by simp [execOp, hop, g1]
    rw [hr, Oper.upon_value]
    have hshape : ∃ q ob, ev t it = .ptr q 0 ∧ E.h[q]? = some ob ∧ ob ≠ .dead ∧ ∀ i, i ≠ q → h'[i]? = E.h[i]? := by
      unfold nextA at h
      split at h
      · rename_i q hq
        split at h
        · rename_i s0 pos ho
          split at h
          · cases h
            exact ⟨q, _, hq, ho, by simp, fun i hi => by rw [List.getElem?_set, if_neg (Ne.symm hi)]⟩
          · cases h
            exact ⟨q, _, hq, ho, by simp, fun i _ => rfl⟩
        · cases h
      · cases h
    obtain ⟨q, ob, hq, ho, hd, hout⟩ := hshape
    have htc : touched C (ev t) E.h o = [q] := by unfold touched; rw [hop]; simp [hq]
    refine hK cv w' E.ι ⟨g2, g3, g4, g5, fun i obi hi hoi hdi => ⟨hi, ?_⟩, fun i hi hil => ?_⟩
    · have hne : i ≠ q := fun e => by
        subst e
        rcases VR.refs _ _ (hv it) i (by simp [hq, refsV]) with ⟨z, hz⟩ | hz
        · rw [hi] at hz; cases hz
        · rw [hoi] at hz; exact hdi (Option.some.inj hz)
      rw [hout i hne]; exact hoi
    · rw [htc] at hi
      rw [hout i (fun e => hi (by simp [e]))]
  · rename_i args tys hop
    split at h
    · rename_i x y hl
      have e1 : args = #[x, y] := by apply Array.toList_inj.1; simpa using hl
      obtain ⟨cv, w', ι', g1, g2, g3, g4, g5, g6⟩ := append_ok (P := C.P) (ty := o.type) s (hv x) (hv y) h
      have hr : (execOp a.eval o).run C.P E.w = .ok (.value cv) w' := by
        simp only [execOp, hop, resolve, pure_bind, invoke, builtin, e1]
        have g1' : (Builtin.append_ tys o.type #[a.eval x, a.eval y]).run C.P E.w = .ok cv w' := by simpa using g1
        simp [g1']
      rw [hr, Oper.upon_value]
      refine hK cv w' ι' ⟨g2, g3, g4, g5, fun i ob hi ho hd => ?_, fun i hi hil => ?_⟩
      · have := g6 i hi (List.getElem?_eq_some_iff.1 ho).1
        exact ⟨this.1, this.2.trans ho⟩
      · have htc : touched C (ev t) E.h o = (match ev t x with | .sl b _ _ => [b] | _ => []) := by unfold touched; rw [hop]; simp only [hl]; cases ev t x <;> rfl
        rw [htc] at hi
        unfold appendA at h
        split at h
        · split at h
          · · split at h
              · split at h
                · split at h
                  · split at h
                    · split at h
                      · cases h; rfl
                      · split at h
                        · cases h; rw [List.getElem?_append, if_pos hil]
                        · cases h
                    · rename_i q len hq
                      split at h
                      · split at h
                        · cases h
                          simp only [hq] at hi
                          rw [List.getElem?_append, if_pos (by simpa using hil), List.getElem?_set, if_neg (fun e => hi (by simp [e]))]
                        · cases h
                      · cases h
                    · cases h
                  · cases h
                · cases h
              · cases h
          · cases h
        · cases h
    · cases h
  · rename_i args tys hop
    split at h
    · rename_i x y hl
      have e1 : args = #[x, y] := by apply Array.toList_inj.1; simpa using hl
      obtain ⟨cv, w', g1, g2, g3, g4, g5, q, off, len, ob, ob', hd, ho, hdd, rfl⟩ := copy_ok (P := C.P) (ty := o.type) s (hv x) (hv y) h
      have hr : (execOp a.eval o).run C.P E.w = .ok (.value cv) w' := by
        simp only [execOp, hop, resolve, pure_bind, invoke, builtin, e1]
        have g1' : (Builtin.copy_ tys o.type #[a.eval x, a.eval y]).run C.P E.w = .ok cv w' := by simpa using g1
        simp [g1']
      rw [hr, Oper.upon_value]
      have htc : touched C (ev t) E.h o = [q] := by unfold touched; rw [hop]; simp [hl, hd]
      refine hK cv w' E.ι ⟨g2, g3, g4, g5, fun i obi hi hoi hdi => ⟨hi, ?_⟩, fun i hi hil => ?_⟩
      · have hne : i ≠ q := fun e => by
          subst e
          rcases VR.refs _ _ (hv x) i (by simp [hd, refsV]) with ⟨z, hz⟩ | hz
          · rw [hi] at hz; cases hz
          · rw [hoi] at hz; exact hdi (Option.some.inj hz)
        rw [List.getElem?_set, if_neg (Ne.symm hne)]; exact hoi
      · rw [htc] at hi
        rw [List.getElem?_set, if_neg (fun e => hi (by simp [e]))]
    · cases h
  · cases h
  · rename_i hn1 hn2 hn3 hn4
    split at h
    · rename_i g args hca
      split at h
      · rename_i hb
        have htc : touched C (ev t) E.h o = sig (C.fz g) E.h args := by
          unfold touched
          unfold calleeA at hca
          split at hca
          · rename_i f as tys hop
            simp only [hop]
            unfold calleeA
            simp only
            rw [hca]
          · rename_i r name as tys hop
            simp only [hop]
            unfold calleeA
            simp only
            rw [hca]
          · cases hca
        unfold calleeA at hca
        split at hca
        · rename_i f as tys hop
          split at hca
          · rename_i g' first caps hf
            cases hca
            have hfv := hv f
            rw [hf] at hfv
            simp only [VR] at hfv
            obtain ⟨p, q, hev, hp, hq⟩ := hfv
            refine hcall g _ (p ++ as.map a.eval ++ q) hb h (by simp only [Array.toList_append, Array.toList_map]; exact (hp.app (evs_ok ht as.toList)).app hq) ?_ htc
            simp only [execOp, hop, resolve, hev, Deferred.ofValue, pure_bind, invoke]
          · cases hca
        · rename_i r name as tys hop
          rw [Option.map_eq_some_iff] at hca
          obtain ⟨⟨f, rv⟩, htg, he⟩ := hca
          cases he
          have hrv := hv r
          unfold target at htg
          split at htg
          · rename_i ty u hr
            rw [hr] at hrv
            simp only [VR] at hrv
            obtain ⟨cu, hev, hu⟩ := hrv
            split at htg
            · rename_i m hm
              rw [Option.bind_eq_some_iff] at hm
              obtain ⟨ti, hti, hfind⟩ := hm
              split at htg
              · rename_i hpath
                have hpath' : m.path.toList = [] := by simpa [Array.isEmpty] using hpath
                obtain ⟨fuel, hfuel⟩ : ∃ n, C.P.types.size + Made.depth = n + 1 := ⟨C.P.types.size + (Made.depth - 1), by unfold Made.depth; omega⟩
                have hmeth : ∀ fn, f = fn → (method (C.P.types.size + Made.depth) ty cu name).run C.P E.w = .ok (fn, cu) E.w ∧ rv = u := by
                  rintro fn rfl
                  rw [hfuel]
                  simp only [method, Sem.run_bind, typeInfo, run_program, Result.andThen_ok, hti, Sem.run_pure, hfind, hpath', follow]
                  split at htg
                  · rename_i f' e' hfn hun
                    cases htg
                    simp [hfn, receiverAt, run_underlying hun, Place.get]
                  · cases htg
                  · rename_i f' d hnp hfn hun
                    cases htg
                    have : ∀ q, d ≠ .pointer q := hnp
                    cases d <;> first | exact absurd rfl (this _) | simp [hfn, receiverAt, run_underlying hun, Place.get]
                  · cases htg
                obtain ⟨hm1, hm2⟩ := hmeth _ rfl
                refine hcall _ _ (#[cu] ++ as.map a.eval) hb h (by rw [hm2]; simp only [Array.toList_append, Array.toList_map]; simp only [List.cons_append, List.nil_append, VL]; exact ⟨hu, evs_ok ht as.toList⟩) ?_ htc
                simp only [execOp, hop, resolve, hev, pure_bind, invoke]
                have h0 : (#[Value.iface ty cu] ++ as.map a.eval)[0]? = some (.iface ty cu) := by rw [Array.getElem?_append_left (by show 0 < 1; omega)]; rfl
                have h1 : (#[Value.iface ty cu] ++ as.map a.eval).extract 1 (#[Value.iface ty cu] ++ as.map a.eval).size = as.map a.eval := by
                  apply Array.toList_inj.1
                  simp
                  exact List.take_of_length_le (by simp)
                simp only [h0, h1, callMethod, Sem.run_bind, run_program, Result.andThen_ok, hm1]
              · cases htg
            · cases htg
          · cases htg
        · cases hca
      · cases h
    · cases h
end
end Go.Proofs.YtiemjcchlfbglaaGreatE
/- A region in the text's order. -/
namespace Go.Proofs.YtiemjcchlfbglaaGreatE
open Go

/-- The interpreter's state stands for the frame and the world. -/
def Inv (E0 : En) (st : S) (a : Act) (w : World) : Prop :=
  ∃ ι, Sim ⟨ι, st.h, w, E0.X⟩ ∧ VL ⟨ι, st.h, w, E0.X⟩ st.t a.tmps.toList ∧ Ext E0 ⟨ι, st.h, w, E0.X⟩ ∧ Wd E0.w w ∧ a.defers = []

theorem VR.notbool {E : En} {v : AV} {b : Bool} (h : VR E v (.bool b)) : v = .bool b ∨ v = .gone := by
  cases v <;> simp only [VR] at h <;> first
    | (cases h; exact .inl rfl)
    | exact .inr rfl
    | (cases h; done)
    | (obtain ⟨_, _, h, _⟩ := h; cases h; done)
    | (obtain ⟨_, h, _⟩ := h; cases h; done)
    | (exfalso; split at h <;> first
        | exact h
        | (obtain ⟨_, _, _, h⟩ := h; cases h; done)
        | (obtain ⟨_, _, _, _, h, _⟩ := h; cases h; done)
        | (obtain ⟨_, _, h⟩ := h; cases h; done)
        | (obtain ⟨_, h⟩ := h; cases h; done))

theorem VL.getA {E : En} {t : List AV} {a : Array Value} (h : VL E t a.toList) (d : Nat) : (t[d]? = none ∧ a[d]? = none) ∨ ∃ v c, t[d]? = some v ∧ a[d]? = some c ∧ VR E v c := by
  cases hv : t[d]? with
  | none =>
    left
    refine ⟨rfl, ?_⟩
    have := h.len
    simp at this hv ⊢
    omega
  | some v =>
    obtain ⟨c, hc, hr⟩ := h.get d v hv
    exact .inr ⟨v, c, rfl, by simpa using hc, hr⟩

theorem wanted_ok {E : En} {ops : Array Oper} {t : List AV} {a : Act} {o : Oper} {b : Bool} (ht : VL E t a.tmps.toList) (h : wantedA ops t o = some b) : Region.wanted o (yielded ops a.tmps) = b := by
  unfold wantedA at h
  unfold Region.wanted
  split at h
  · rename_i hg; rw [hg]; cases h; rfl
  · rename_i j want hg
    rw [hg]
    simp only
    unfold yielded
    cases hd : (ops[j]?).bind (·.dst) with
    | none => rw [hd] at h; cases h; rfl
    | some d =>
      rw [hd] at h
      simp only [Option.bind_some]
      simp only at h
      rcases ht.getA d with ⟨h1, h2⟩ | ⟨v, c, h1, h2, hr⟩
      · rw [h1] at h; cases h; rw [h2]; rfl
      · rw [h1] at h; rw [h2]
        cases v with
        | bool x => simp only [VR] at hr; subst hr; cases h; cases x <;> cases want <;> rfl
        | gone => cases h
        | _ =>
          cases h
          cases c with
          | bool x => rcases VR.notbool hr with h | h <;> cases h
          | _ => rfl

theorem put_ok {E : En} {t : List AV} {a : Act} (ht : VL E t a.tmps.toList) (dst : Option Tmp) {v : AV} {cv : Value} (hv : VR E v cv) (h : List AObj) : VL E ((⟨t, h⟩ : S).put dst v h).t (a.put dst cv).tmps.toList := by
  cases dst with
  | none => exact ht
  | some d =>
    show VL E (t.set d v) (a.tmps.setIfInBounds d cv).toList
    rw [Array.toList_setIfInBounds]
    exact ht.set d hv
theorem put_defers (a : Act) (dst : Option Tmp) (v : Value) : (a.put dst v).defers = a.defers := by cases dst <;> rfl
theorem put_h (st : S) (dst : Option Tmp) (v : AV) (h : List AObj) : (st.put dst v h).h = h := by cases dst <;> rfl
theorem put_t (st : S) (dst : Option Tmp) (v : AV) (h : List AObj) : (st.put dst v h).t = ((⟨st.t, h⟩ : S).put dst v h).t := by cases dst <;> rfl

section
variable {C : Ctx} {E0 : En} {Q : Exit → Act → World → Prop}

/-- One operation. -/
theorem op_ok (hP : okProg C.P = true) (hF : SoundF C.P C.F) {o : Oper} {st : S} {a : Act} {w : World} {v : AV} {h' : List AObj} (hi : Inv E0 st a w) (h : opA C (ev st.t) st.h o = some (v, h')) {K : Act → World → Prop}
    (hK : ∀ a' w', Inv E0 (st.put o.dst v h') a' w' → K a' w') : o.wp C.P a w K Q := by
  obtain ⟨ι, s, ht, x, wd, hd⟩ := hi
  unfold opA at h
  split at h
  · refine wr_ok (E := ⟨ι, st.h, w, E0.X⟩) hP hF s ht h fun cv w' ι' af => hK _ _ ⟨ι', ?_⟩
    refine ⟨by rw [put_h]; exact af.sim, ?_, by rw [put_h]; exact x.trans af.ext, wd.trans af.wd, by rw [put_defers]; exact hd⟩
    rw [put_t, put_h]
    exact put_ok (VL.ext af.ext _ _ ht) o.dst af.vr h'
  · rw [Option.map_eq_some_iff] at h
    obtain ⟨⟨u, ob⟩, hn, he⟩ := h
    cases he
    have hdo := nw_ok (P := C.P) (E := ⟨ι, st.h, w, E0.X⟩) s ht hn
    unfold Oper.wp
    cases ob with
    | none =>
      obtain ⟨cv, hr, hv⟩ := hdo
      have hr : (execOp a.eval o).run C.P w = .ok (.value cv) w := hr
      rw [hr, Oper.upon_value]
      refine hK _ _ ⟨ι, ?_⟩
      simp only [Option.toList_none, List.append_nil]
      refine ⟨by rw [put_h]; exact s, ?_, by rw [put_h]; exact x, wd, by rw [put_defers]; exact hd⟩
      rw [put_t, put_h]
      exact put_ok ht o.dst hv st.h
    | some ob =>
      obtain ⟨cv, w', hr, hn⟩ := hdo
      have hr : (execOp a.eval o).run C.P w = .ok (.value cv) w' := hr
      rw [hr, Oper.upon_value]
      have hnone : ι st.h.length = none := by
        cases hc : ι st.h.length with
        | none => rfl
        | some p => exact absurd (s.lt _ p.1 p.2 hc).1 (Nat.lt_irrefl _)
      obtain ⟨c, g1, g2, g3, g4⟩ := new_ok s hn (st.h ++ [ob]) (fun i hi => by
        show _ = st.h[i]?
        rw [List.getElem?_append]
        split
        · rfl
        · rename_i hge
          have hi : i ≠ st.h.length := hi
          rw [List.getElem?_eq_none (l := st.h) (by omega), List.getElem?_eq_none (by simp; omega)]) (by simp) hnone (.inl (by simp))
      refine hK (a.put o.dst cv) w' ⟨upd ι st.h.length (some (w.heap.size, c)), ?_⟩
      simp only [Option.toList_some]
      refine ⟨by rw [put_h]; exact g1, ?_, by rw [put_h]; exact x.trans g2, wd.trans g3, by rw [put_defers]; exact hd⟩
      rw [put_t, put_h]
      exact put_ok (VL.ext g2 _ _ ht) o.dst g4 _

theorem skip_ok {st : S} {a : Act} {w : World} (hi : Inv E0 st a w) (dst : Option Tmp) : Inv E0 (st.put dst .undef st.h) (a.put dst undef) w := by
  obtain ⟨ι, s, ht, x, wd, hd⟩ := hi
  refine ⟨ι, by rw [put_h]; exact s, ?_, by rw [put_h]; exact x, wd, by rw [put_defers]; exact hd⟩
  rw [put_t, put_h]
  exact put_ok ht dst (by simp [AV.undef, undef, VR, VL]) st.h

theorem step_ok (hP : okProg C.P = true) (hF : SoundF C.P C.F) {ops : Array Oper} {i : Nat} {st st' : S} {a : Act} {w : World} (hi : Inv E0 st a w) (h : stepA C ops i st = some st') {K : Act → World → Prop}
    (hK : ∀ a' w', Inv E0 st' a' w' → K a' w') : wpOp C.P ops Q i K a w := by
  unfold stepA at h
  unfold wpOp
  split at h
  · rename_i ho; rw [ho]; cases h; exact hK _ _ hi
  · rename_i o ho
    rw [ho]
    simp only
    split at h
    · rename_i b hb
      have hw : Region.wanted o (yielded ops a.tmps) = b := by
        obtain ⟨ι, _, ht, _⟩ := hi
        exact wanted_ok ht hb
      rw [hw]
      split at h
      · rename_i hbt
        rw [Option.map_eq_some_iff] at h
        obtain ⟨⟨v, h'⟩, h1, rfl⟩ := h
        rw [hbt, if_pos rfl]
        exact .inl (op_ok hP hF hi h1 hK)
      · rename_i hbf
        cases h
        rw [if_neg hbf]
        exact hK _ _ (skip_ok hi o.dst)
    · cases h

theorem runOps_ok (hP : okProg C.P = true) (hF : SoundF C.P C.F) {ops : Array Oper} : ∀ (l : List Nat) {st st' : S} {a : Act} {w : World}, Inv E0 st a w → runOps C ops l st = some st' →
    (∀ a' w', Inv E0 st' a' w' → Q .normal a' w') → wpOps C.P ops Q l a w
  | [], st, st', a, w, hi, h, hQ => by simp [runOps] at h; subst h; exact hQ _ _ hi
  | i :: l, st, st', a, w, hi, h, hQ => by
    simp only [runOps] at h
    rw [Option.bind_eq_some_iff] at h
    obtain ⟨st1, h1, h2⟩ := h
    rw [wpOps_cons]
    exact step_ok hP hF hi h1 fun a' w' hi' => runOps_ok hP hF l hi' h2 hQ
end
end Go.Proofs.YtiemjcchlfbglaaGreatE
/- What waits for what in a region. -/
namespace Go.Proofs.YtiemjcchlfbglaaGreatE
open Go

def befF (acc : Array Nat) (o : Oper) : Nat := o.after.foldl (fun s e => if Region.binds .any e then s ||| 2 ^ e.on ||| acc.getD e.on 0 else s) 0
theorem before_eq (ops : Array Oper) : Region.before ops = ops.foldl (fun acc o => acc.push (befF acc o)) #[] := rfl

theorem fold_bit (acc : Array Nat) (j : Nat) : ∀ (l : List Edge) (s : Nat), (l.foldl (fun s e => if Region.binds .any e then s ||| 2 ^ e.on ||| acc.getD e.on 0 else s) s).testBit j = true ↔
    s.testBit j = true ∨ ∃ e ∈ l, Region.binds .any e = true ∧ (e.on = j ∨ (acc.getD e.on 0).testBit j = true)
  | [], s => by simp
  | e :: l, s => by
    rw [List.foldl_cons, fold_bit acc j l]
    by_cases hb : Region.binds .any e = true
    · rw [if_pos hb]
      simp only [Nat.testBit_or, Nat.testBit_two_pow, Bool.or_eq_true, decide_eq_true_eq, List.mem_cons, exists_eq_or_imp, hb, true_and]
      constructor
      · rintro (((h | h) | h) | h)
        · exact .inl h
        · exact .inr (.inl (.inl h))
        · exact .inr (.inl (.inr h))
        · exact .inr (.inr h)
      · rintro (h | (h | h) | h)
        · exact .inl (.inl (.inl h))
        · exact .inl (.inl (.inr h))
        · exact .inl (.inr h)
        · exact .inr h
    · rw [if_neg hb]
      simp only [List.mem_cons, exists_eq_or_imp, hb, Bool.false_eq_true, false_and, false_or]

theorem bef_list : ∀ (l : List Oper) (acc : Array Nat), ∃ r : Array Nat, l.foldl (fun acc o => acc.push (befF acc o)) acc = acc ++ r ∧ r.size = l.length ∧
    ∀ k o, l[k]? = some o → (acc ++ r).getD (acc.size + k) 0 = befF ((acc ++ r).extract 0 (acc.size + k)) o
  | [], acc => ⟨#[], by simp, rfl, by simp⟩
  | o :: l, acc => by
    obtain ⟨r, h1, h2, h3⟩ := bef_list l (acc.push (befF acc o))
    refine ⟨#[befF acc o] ++ r, ?_, by simp [h2]; omega, fun k o' hk => ?_⟩
    · rw [List.foldl_cons, h1]
      apply Array.toList_inj.1
      simp
    · have he : acc ++ (#[befF acc o] ++ r) = acc.push (befF acc o) ++ r := by
        apply Array.toList_inj.1
        simp
      rw [he]
      cases k with
      | zero =>
        simp at hk; subst hk
        have e1 : (acc.push (befF acc o) ++ r).extract 0 (acc.size + 0) = acc := by
          apply Array.toList_inj.1
          simp
        rw [e1, Array.getD_eq_getD_getElem?, Array.getElem?_append_left (by simp)]
        simp
      | succ k =>
        simp at hk
        have := h3 k o' hk
        rw [Array.size_push] at this
        rw [show acc.size + (k + 1) = acc.size + 1 + k from by omega]
        exact this

theorem before_bit {ops : Array Oper} {i : Nat} {o : Oper} (ho : ops[i]? = some o) (j : Nat) :
    ((Region.before ops).getD i 0).testBit j = true ↔ ∃ e ∈ o.after, Region.binds .any e = true ∧ (e.on = j ∨ (e.on < i ∧ ((Region.before ops).getD e.on 0).testBit j = true)) := by
  obtain ⟨r, h1, h2, h3⟩ := bef_list ops.toList #[]
  have hb : Region.before ops = r := by
    rw [before_eq, ← Array.foldl_toList, h1]; simp
  have := h3 i o (by simpa using ho)
  simp only [Array.empty_append, Array.size_empty, Nat.zero_add] at this
  rw [hb, this]
  unfold befF
  rw [← Array.foldl_toList, fold_bit]
  have hx : ∀ n, (r.extract 0 i).getD n 0 = if n < i then r.getD n 0 else 0 := fun n => by
    rw [Array.getD_eq_getD_getElem?, Array.getD_eq_getD_getElem?, Array.getElem?_extract]
    by_cases hn : n < i
    · rw [if_pos hn]
      by_cases hr : n < r.size
      · rw [if_pos (by omega)]; simp
      · rw [if_neg (by omega), Array.getElem?_eq_none (by omega)]
    · rw [if_neg hn, if_neg (by omega)]; rfl
  simp only [Nat.zero_testBit, Bool.false_eq_true, false_or, hx, Array.mem_toList_iff]
  constructor
  · rintro ⟨e, he, hbn, h⟩
    refine ⟨e, he, hbn, ?_⟩
    rcases h with h | h
    · exact .inl h
    · split at h
      · rename_i hlt; exact .inr ⟨hlt, h⟩
      · simp at h
  · rintro ⟨e, he, hbn, h⟩
    refine ⟨e, he, hbn, ?_⟩
    rcases h with h | ⟨hlt, h⟩
    · exact .inl h
    · rw [if_pos hlt]; exact .inr h

/-- What has come up is closed. -/
theorem closed_bit {ops : Array Oper} {D : Nat → Prop} (hD : ∀ i o, D i → ops[i]? = some o → ∀ e ∈ o.after, Region.binds .any e = true → D e.on) (hs : ∀ i, D i → i < ops.size) :
    ∀ (i j : Nat), D i → ((Region.before ops).getD i 0).testBit j = true → D j := by
  intro i
  induction i using Nat.strongRecOn with
  | _ i ih =>
    intro j hi hb
    have hlt0 := hs i hi
    have ho : ops[i]? = some (ops[i]'hlt0) := Array.getElem?_eq_getElem hlt0
    obtain ⟨e, he, hbn, h⟩ := (before_bit ho j).1 hb
    have he2 := hD i _ hi ho e he hbn
    rcases h with rfl | ⟨hlt, h⟩
    · exact he2
    · exact ih e.on hlt j he2 h

structure Canon (ops : Array Oper) (c : List Nat) : Prop where
  lt : ∀ (k i : Nat), c[k]? = some i → i < ops.size
  bf : ∀ (k i j : Nat), c[k]? = some i → ((Region.before ops).getD i 0).testBit j = true → ∃ k', k' < k ∧ c[k']? = some j
  wr : ∀ (k i p j : Nat), c[k]? = some i → p < k → c[p]? = some j → isWr ops j = true → ∃ p' j', p ≤ p' ∧ p' < k ∧ c[p']? = some j' ∧ isWr ops j' = true ∧ ((Region.before ops).getD i 0).testBit j' = true
  inj : ∀ (k k' i : Nat), c[k]? = some i → c[k']? = some i → k = k'

theorem and_sub {a b : Nat} (h : (a &&& b == a) = true) {j : Nat} (hj : a.testBit j = true) : b.testBit j = true := by
  have h : a &&& b = a := by simpa using h
  have := congrArg (fun n => n.testBit j) h
  simp only [Nat.testBit_and, hj, Bool.true_and] at this
  exact this

theorem canon_facts {ops : Array Oper} : ∀ (l : List Nat) (pre : List Nat) (done : Nat) (wr : Option Nat), canonOk ops (Region.before ops) l done wr = true → Canon ops pre → (∀ j, done.testBit j = true ↔ j ∈ pre) →
    (match wr with | none => ∀ j ∈ pre, isWr ops j = false | some j => ∃ p, pre[p]? = some j ∧ isWr ops j = true ∧ ∀ (p' j' : Nat), p < p' → pre[p']? = some j' → isWr ops j' = false) → Canon ops (pre ++ l) ∧ ∀ i, i < ops.size → i ∈ pre ++ l
  | [], pre, done, wr, h, hc, hd, _ => by
    rw [List.append_nil]
    refine ⟨hc, fun i hi => (hd i).1 ?_⟩
    simp only [canonOk, List.all_eq_true, List.mem_range] at h
    exact h i hi
  | i :: l, pre, done, wr, h, hc, hd, hw => by
    simp only [canonOk, Bool.and_eq_true, decide_eq_true_eq, Bool.not_eq_true'] at h
    obtain ⟨⟨⟨⟨h1, h2⟩, h3⟩, h4⟩, h5⟩ := h
    have hni : i ∉ pre := fun hm => by have := (hd i).2 hm; rw [h2] at this; cases this
    have hget : ∀ (k x : Nat), (pre ++ [i])[k]? = some x → (k < pre.length ∧ pre[k]? = some x) ∨ (k = pre.length ∧ x = i) := fun k x hk => by
      rw [List.getElem?_append] at hk
      split at hk
      · rename_i hlt; exact .inl ⟨hlt, hk⟩
      · rename_i hge
        right
        by_cases hk0 : k - pre.length = 0
        · rw [hk0] at hk; simp at hk; exact ⟨by omega, hk.symm⟩
        · rw [List.getElem?_eq_none (by simp; omega)] at hk; cases hk
    have hold : ∀ (k x : Nat), pre[k]? = some x → (pre ++ [i])[k]? = some x := fun k x hk => by
      rw [List.getElem?_append, if_pos (List.getElem?_eq_some_iff.1 hk).1]; exact hk
    have hc' : Canon ops (pre ++ [i]) := by
      refine ⟨fun k x hk => ?_, fun k x j hk hb => ?_, fun k x p j hk hp hj hwj => ?_, fun k k' x hk hk' => ?_⟩
      · rcases hget k x hk with ⟨_, h⟩ | ⟨_, rfl⟩
        · exact hc.lt k x h
        · exact h1
      · rcases hget k x hk with ⟨_, h⟩ | ⟨rfl, rfl⟩
        · obtain ⟨k', hk', h6⟩ := hc.bf k x j h hb
          exact ⟨k', hk', hold _ _ h6⟩
        · obtain ⟨k', h6⟩ := List.getElem?_of_mem ((hd j).1 (and_sub h3 hb))
          exact ⟨k', (List.getElem?_eq_some_iff.1 h6).1, hold _ _ h6⟩
      · rcases hget k x hk with ⟨hkl, h⟩ | ⟨rfl, rfl⟩
        · rcases hget p j hj with ⟨_, hj'⟩ | ⟨he, _⟩
          · obtain ⟨p', j', e1, e2, e3, e4, e5⟩ := hc.wr k x p j h hp hj' hwj
            exact ⟨p', j', e1, e2, hold _ _ e3, e4, e5⟩
          · omega
        · rcases hget p j hj with ⟨_, hj'⟩ | ⟨he, _⟩
          · cases wr with
            | none =>
              have := hw j (List.mem_of_getElem? hj')
              rw [hwj] at this; cases this
            | some j0 =>
              obtain ⟨p0, e1, e2, e3⟩ := hw
              have hple : p ≤ p0 := by
                rcases Nat.lt_or_ge p0 p with hlt | hge
                · have := e3 p j hlt hj'
                  rw [hwj] at this; cases this
                · exact hge
              exact ⟨p0, j0, hple, (List.getElem?_eq_some_iff.1 e1).1, hold _ _ e1, e2, h4⟩
          · omega
      · rcases hget k x hk with ⟨h6, h7⟩ | ⟨h6, h7⟩ <;> rcases hget k' x hk' with ⟨g6, g7⟩ | ⟨g6, g7⟩
        · exact hc.inj k k' x h7 g7
        · subst g7; exact absurd (List.mem_of_getElem? h7) hni
        · subst h7; exact absurd (List.mem_of_getElem? g7) hni
        · rw [h6, g6]
    have := canon_facts l (pre ++ [i]) (done ||| 2 ^ i) (if isWr ops i then some i else wr) h5 hc' (fun j => by
      simp only [Nat.testBit_or, Nat.testBit_two_pow, Bool.or_eq_true, decide_eq_true_eq, List.mem_append, List.mem_singleton]
      rw [hd j]
      exact or_congr Iff.rfl eq_comm) (by
      by_cases hwi : isWr ops i = true
      · rw [if_pos hwi]
        refine ⟨pre.length, by simp, hwi, fun p' j' hp hj => ?_⟩
        rcases hget p' j' hj with ⟨h6, _⟩ | ⟨h6, _⟩ <;> omega
      · rw [if_neg hwi]
        cases wr with
        | none =>
          intro j hj
          rcases List.mem_append.1 hj with hj | hj
          · exact hw j hj
          · simp at hj; subst hj; simpa using hwi
        | some j0 =>
          obtain ⟨p0, e1, e2, e3⟩ := hw
          refine ⟨p0, hold _ _ e1, e2, fun p' j' hp hj => ?_⟩
          rcases hget p' j' hj with ⟨_, h7⟩ | ⟨_, rfl⟩
          · exact e3 p' j' hp h7
          · simpa using hwi)
    rw [List.append_assoc] at this
    exact this

theorem canon_all {ops : Array Oper} {c : List Nat} (h : canonOk ops (Region.before ops) c 0 none = true) : Canon ops c ∧ ∀ i, i < ops.size → i ∈ c := by
  have := canon_facts c [] 0 none h ⟨by simp, by simp, by simp, by simp⟩ (by simp) (by simp)
  simpa using this

/-- The canonical run, state by state. -/
structure Trace (C : Ctx) (ops : Array Oper) (c : List Nat) (St : Nat → S) : Prop where
  step : ∀ (k i : Nat), c[k]? = some i → ∃ o b, ops[i]? = some o ∧ wantedA ops (St k).t o = some b ∧ stepA C ops i (St k) = some (St (k + 1))
  ok : ∀ (k i : Nat) (o : Oper), c[k]? = some i → ops[i]? = some o → wantedA ops (St k).t o = some true → isWriter o = true → ∀ (k' i' : Nat) (o' : Oper) (b : Nat), k' < k → c[k']? = some i' → ops[i']? = some o' →
    wantedA ops (St k').t o' = some true → isWriter o' = false → readObj (ev (St k').t) o' = some b → ((Region.before ops).getD i 0).testBit i' = true ∨ b ∉ touched C (ev (St k).t) (St k).h o

theorem trace_of {C : Ctx} {ops : Array Oper} : ∀ (c : List Nat) (pend : List (Nat × Nat)) (st st' : S), runD C ops (Region.before ops) c pend st = some st' →
    ∃ St : Nat → S, St 0 = st ∧ St c.length = st' ∧ Trace C ops c St ∧ ∀ (k i : Nat) (o : Oper), c[k]? = some i → ops[i]? = some o → wantedA ops (St k).t o = some true → isWriter o = true → ∀ p ∈ pend, ((Region.before ops).getD i 0).testBit p.1 = true ∨ p.2 ∉ touched C (ev (St k).t) (St k).h o
  | [], pend, st, st', h => by
    simp [runD] at h; subst h
    exact ⟨fun _ => st, rfl, rfl, ⟨by simp, by simp⟩, by simp⟩
  | i :: c, pend, st, st', h => by
    simp only [runD] at h
    split at h
    · cases h
    · rename_i o ho
      split at h
      · rename_i b hb
        -- all ways: one step, then the rest with some pendings
        have key : ∀ (pend' : List (Nat × Nat)) (st1 : S), stepA C ops i st = some st1 → runD C ops (Region.before ops) c pend' st1 = some st' → (∀ p ∈ pend, p ∈ pend') →
            (b = true → isWriter o = true → ∀ p ∈ pend, ((Region.before ops).getD i 0).testBit p.1 = true ∨ p.2 ∉ touched C (ev st.t) st.h o) → (b = true → isWriter o = false → ∀ q, readObj (ev st.t) o = some q → (i, q) ∈ pend') →
            ∃ St : Nat → S, St 0 = st ∧ St (i :: c).length = st' ∧ Trace C ops (i :: c) St ∧ ∀ (k i' : Nat) (o : Oper), (i :: c)[k]? = some i' → ops[i']? = some o → wantedA ops (St k).t o = some true → isWriter o = true → ∀ p ∈ pend, ((Region.before ops).getD i' 0).testBit p.1 = true ∨ p.2 ∉ touched C (ev (St k).t) (St k).h o := by
          intro pend' st1 hs hr hsub hw hl
          obtain ⟨St, e1, e2, tr, e3⟩ := trace_of c pend' st1 st' hr
          refine ⟨fun k => match k with | 0 => st | k + 1 => St k, rfl, e2, ⟨fun k x hk => ?_, fun k x o1 hk ho1 hw1 hwr1 k' i' o' q hk' hi' ho' hw' hwr' hq => ?_⟩, fun k x o1 hk ho1 hw1 hwr1 p hp => ?_⟩
          · cases k with
            | zero => simp at hk; subst hk; exact ⟨o, b, ho, hb, by rw [hs]; exact congrArg some e1.symm⟩
            | succ k => simp at hk; exact tr.step k x hk
          · cases k with
            | zero => omega
            | succ k =>
              simp at hk
              cases k' with
              | zero =>
                simp at hi'; subst hi'
                rw [ho] at ho'; cases ho'
                have hbt : b = true := by rw [hb] at hw'; exact Option.some.inj hw'
                exact e3 k x o1 hk ho1 hw1 hwr1 (i, q) (hl hbt hwr' q hq)
              | succ k' =>
                simp at hi'
                exact tr.ok k x o1 hk ho1 hw1 hwr1 k' i' o' q (by omega) hi' ho' hw' hwr' hq
          · cases k with
            | zero =>
              simp at hk; subst hk
              rw [ho] at ho1; cases ho1
              have hbt : b = true := by rw [hb] at hw1; exact Option.some.inj hw1
              exact hw hbt hwr1 p hp
            | succ k =>
              simp at hk
              exact e3 k x o1 hk ho1 hw1 hwr1 p (hsub p hp)
        split at h
        · rename_i hbt
          split at h
          · rename_i hwr
            split at h
            · rename_i hp
              rw [Option.bind_eq_some_iff] at h
              obtain ⟨st1, hs, hr⟩ := h
              refine key pend st1 hs hr (fun p hp => hp) (fun _ _ p hpm => ?_) (fun _ hf => by rw [hwr] at hf; cases hf)
              rw [List.all_eq_true] at hp
              have := hp p hpm
              rw [Bool.or_eq_true] at this
              rcases this with h | h
              · exact .inl h
              · exact .inr (by simpa using h)
            · cases h
          · rename_i hwr
            rw [Option.bind_eq_some_iff] at h
            obtain ⟨st1, hs, hr⟩ := h
            refine key _ st1 hs hr (fun p hp => List.mem_append_right _ hp) (fun _ hf => absurd hf hwr) (fun _ _ q hq => ?_)
            rw [hq]; simp
        · rename_i hbf
          rw [Option.bind_eq_some_iff] at h
          obtain ⟨st1, hs, hr⟩ := h
          exact key pend st1 hs hr (fun p hp => hp) (fun hf => absurd hf hbf) (fun hf => absurd hf hbf)
      · cases h
end Go.Proofs.YtiemjcchlfbglaaGreatE
/- The temporaries of a region whose operations come up in any order. -/
namespace Go.Proofs.YtiemjcchlfbglaaGreatE
open Go

def dstOf (ops : Array Oper) (i : Nat) : Option Tmp := (ops[i]?).bind (·.dst)
def slotV (ops : Array Oper) (c : List Nat) (St : Nat → S) (d : Nat → Bool) : Nat → Nat → AV
  | 0, t => (St 0).t.getD t .undef
  | k + 1, t => match c[k]? with
    | some i => if d i = true ∧ dstOf ops i = some t then (St (k + 1)).t.getD t .undef else slotV ops c St d k t
    | none => slotV ops c St d k t

theorem put_getD {st : S} {dst : Option Tmp} {v : AV} {h : List AObj} {t : Nat} (hd : dst ≠ some t) : (st.put dst v h).t.getD t .undef = st.t.getD t .undef := by
  cases dst with
  | none => rfl
  | some d =>
    have hne : d ≠ t := fun e => hd (by rw [e])
    show (st.t.set d v).getD t .undef = _
    simp [List.getD_eq_getElem?_getD, hne]
theorem put_len {st : S} {dst : Option Tmp} {v : AV} {h : List AObj} : (st.put dst v h).t.length = st.t.length := by
  cases dst with
  | none => rfl
  | some d => show (st.t.set d v).length = _; simp
theorem step_slot {C : Ctx} {ops : Array Oper} {i : Nat} {st st1 : S} (h : stepA C ops i st = some st1) : st1.t.length = st.t.length ∧ ∀ t, dstOf ops i ≠ some t → st1.t.getD t .undef = st.t.getD t .undef := by
  unfold stepA at h
  unfold dstOf
  split at h
  · cases h; exact ⟨rfl, fun _ _ => rfl⟩
  · rename_i o ho
    rw [ho]
    split at h
    · split at h
      · rw [Option.map_eq_some_iff] at h
        obtain ⟨p, _, rfl⟩ := h
        exact ⟨put_len, fun t ht => put_getD ht⟩
      · cases h
        exact ⟨put_len, fun t ht => put_getD ht⟩
    · cases h

section
variable {C : Ctx} {ops : Array Oper} {c : List Nat} {St : Nat → S}

theorem st_len (tr : Trace C ops c St) : ∀ k, k ≤ c.length → (St k).t.length = (St 0).t.length
  | 0, _ => rfl
  | k + 1, hk => by
    have hc : c[k]? = some (c[k]'(by omega)) := List.getElem?_eq_getElem (by omega)
    obtain ⟨o, b, _, _, hs⟩ := tr.step k _ hc
    rw [(step_slot hs).1, st_len tr k (by omega)]
theorem slot_true (tr : Trace C ops c St) (t : Nat) : ∀ k, k ≤ c.length → slotV ops c St (fun _ => true) k t = (St k).t.getD t .undef
  | 0, _ => rfl
  | k + 1, hk => by
    have hc : c[k]? = some (c[k]'(by omega)) := List.getElem?_eq_getElem (by omega)
    obtain ⟨o, b, _, _, hs⟩ := tr.step k _ hc
    simp only [slotV, hc]
    by_cases hd : dstOf ops c[k] = some t
    · rw [if_pos ⟨trivial, hd⟩]
    · rw [if_neg (fun h => hd h.2), slot_true tr t k (by omega), (step_slot hs).2 t hd]
theorem slot_none {d : Nat → Bool} {t k : Nat} : ∀ K, k ≤ K → (∀ (p i : Nat), k ≤ p → p < K → c[p]? = some i → dstOf ops i = some t → d i = false) → slotV ops c St d K t = slotV ops c St d k t
  | 0, hk, _ => by
    have h0 : k = 0 := by omega
    rw [h0]
  | K + 1, hk, h => by
    by_cases he : k = K + 1
    · subst he; rfl
    · rw [← slot_none K (by omega) fun p i h1 h2 => h p i h1 (by omega)]
      simp only [slotV]
      split
      · rename_i i hi
        rw [if_neg fun hh => by have := h K i (by omega) (by omega) hi hh.2; rw [hh.1] at this; cases this]
      · rfl
theorem slot_congr {d d' : Nat → Bool} {t : Nat} : ∀ K, (∀ (p i : Nat), p < K → c[p]? = some i → dstOf ops i = some t → d i = d' i) → slotV ops c St d K t = slotV ops c St d' K t
  | 0, _ => rfl
  | K + 1, h => by
    simp only [slotV]
    rw [slot_congr K fun p i h1 => h p i (by omega)]
    split
    · rename_i i hi
      by_cases hd : dstOf ops i = some t
      · rw [h K i (by omega) hi hd]
      · rw [if_neg fun hh => hd hh.2, if_neg fun hh => hd hh.2]
    · rfl

theorem tmp_ord (tm : tmpOk ops (Region.before ops) = true) {i j : Nat} {o : Oper} {t : Nat} (ho : ops[j]? = some o) (ht : t ∈ o.looksAt ops ∨ o.dst = some t) (hi : i < ops.size) (hij : i ≠ j) (hd : dstOf ops i = some t) :
    (i < j ∧ ((Region.before ops).getD j 0).testBit i = true) ∨ (j < i ∧ ((Region.before ops).getD i 0).testBit j = true) := by
  unfold tmpOk at tm
  rw [List.all_eq_true] at tm
  have h1 := tm j (List.mem_range.2 (Array.getElem?_eq_some_iff.1 ho).1)
  rw [ho] at h1
  simp only [List.all_eq_true] at h1
  have h2 := h1 t (by rcases ht with h | h; exact List.mem_append_left _ h; exact List.mem_append_right _ (by simp [h])) i (List.mem_range.2 hi)
  have hoi : ops[i]? = some ops[i] := Array.getElem?_eq_getElem hi
  rw [hoi] at h2
  have hd' : ops[i].dst = some t := by unfold dstOf at hd; rw [hoi] at hd; exact hd
  have hb : (i == j) = false := by simpa using hij
  rw [hb, Bool.false_or] at h2
  simp only [hd', bne_self_eq_false, Bool.false_or] at h2
  rcases Nat.lt_or_gt_of_ne hij with hlt | hgt
  · left
    rw [Nat.max_eq_right (by omega), Nat.min_eq_left (by omega)] at h2
    exact ⟨hlt, h2⟩
  · right
    rw [Nat.max_eq_left (by omega), Nat.min_eq_right (by omega)] at h2
    exact ⟨hgt, h2⟩

/-- What has come up. -/
structure Up (ops : Array Oper) (d : Nat → Bool) : Prop where
  lt : ∀ i, d i = true → i < ops.size
  cl : ∀ (i : Nat) (o : Oper), d i = true → ops[i]? = some o → ∀ e ∈ o.after, Region.binds .any e = true → d e.on = true
theorem Up.bit {d : Nat → Bool} (u : Up ops d) {i j : Nat} (hi : d i = true) (hb : ((Region.before ops).getD i 0).testBit j = true) : d j = true :=
  closed_bit (D := fun i => d i = true) u.cl u.lt i j hi hb
theorem Up.ready {d : Nat → Bool} (u : Up ops d) {i j : Nat} {o : Oper} (ho : ops[i]? = some o) (hr : ∀ e ∈ o.after, Region.binds .any e = true → d e.on = true) (hb : ((Region.before ops).getD i 0).testBit j = true) : d j = true := by
  obtain ⟨e, he, hbn, h⟩ := (before_bit ho j).1 hb
  rcases h with rfl | ⟨_, h⟩
  · exact hr e he hbn
  · exact u.bit (hr e he hbn) h

variable (cn : Canon ops c) (tm : tmpOk ops (Region.before ops) = true) (tr : Trace C ops c St) {d : Nat → Bool} (u : Up ops d) {i k : Nat} {o : Oper} (hk : c[k]? = some i) (ho : ops[i]? = some o) (hni : d i = false)
  (hr : ∀ e ∈ o.after, Region.binds .any e = true → d e.on = true)
include cn tm u hk ho hni hr

omit hr in
/-- Behind position k no writer of a slot that i touches has come up; ahead of it all have. -/
theorem ord_after {t p i' : Nat} (ht : t ∈ o.looksAt ops ∨ o.dst = some t) (hp : k ≤ p) (hc : c[p]? = some i') (hd : dstOf ops i' = some t) : d i' = false := by
  by_cases he : i' = i
  · subst he; exact hni
  · cases hx : d i' with
    | false => rfl
    | true =>
      rcases tmp_ord tm ho ht (cn.lt p i' hc) he hd with ⟨_, hb⟩ | ⟨_, hb⟩
      · obtain ⟨k', h1, h2⟩ := cn.bf k i i' hk hb
        have := cn.inj p k' i' hc h2
        omega
      · have := u.bit hx hb
        rw [hni] at this; cases this
theorem ord_before {t p i' : Nat} (ht : t ∈ o.looksAt ops ∨ o.dst = some t) (hp : p < k) (hc : c[p]? = some i') (hd : dstOf ops i' = some t) : d i' = true := by
  have he : i' ≠ i := fun e => by subst e; have := cn.inj p k i' hc hk; omega
  rcases tmp_ord tm ho ht (cn.lt p i' hc) he hd with ⟨_, hb⟩ | ⟨_, hb⟩
  · exact u.ready ho hr hb
  · obtain ⟨k', h1, h2⟩ := cn.bf p i' i hc hb
    have := cn.inj k k' i hk h2
    omega
include tr
/-- A slot that i looks at holds what it held in the canonical run. -/
theorem slot_read {t : Nat} (ht : t ∈ o.looksAt ops) : slotV ops c St d c.length t = (St k).t.getD t .undef := by
  have hkl : k < c.length := (List.getElem?_eq_some_iff.1 hk).1
  rw [slot_none (k := k) c.length (by omega) fun p i' h1 _ h3 h4 => ord_after cn tm u hk ho hni (.inl ht) h1 h3 h4]
  rw [slot_congr (d' := fun _ => true) k fun p i' h1 h3 h4 => ord_before cn tm u hk ho hni hr (.inl ht) h1 h3 h4]
  exact slot_true tr t k (by omega)
omit tr hr in
theorem slot_write {d' : Nat → Bool} (hd' : ∀ j, d' j = (d j || j == i)) (t : Nat) : slotV ops c St d' c.length t = if o.dst = some t then (St (k + 1)).t.getD t .undef else slotV ops c St d c.length t := by
  have hkl : k < c.length := (List.getElem?_eq_some_iff.1 hk).1
  have hdst : dstOf ops i = o.dst := by unfold dstOf; rw [ho]; rfl
  split
  · rename_i ht
    rw [slot_none (k := k + 1) c.length (by omega) fun p i' h1 _ h3 h4 => by
      have h5 := ord_after cn tm u hk ho hni (.inr ht) (by omega) h3 h4
      have h6 : i' ≠ i := fun e => by subst e; have := cn.inj p k i' h3 hk; omega
      rw [hd', h5]; simpa using h6]
    simp only [slotV, hk]
    rw [if_pos ⟨by rw [hd']; simp, by rw [hdst]; exact ht⟩]
  · rename_i ht
    refine slot_congr c.length fun p i' _ h3 h4 => ?_
    have h6 : i' ≠ i := fun e => by subst e; exact ht (by rw [← hdst]; exact h4)
    rw [hd']
    have : (i' == i) = false := by simpa using h6
    rw [this, Bool.or_false]
end
end Go.Proofs.YtiemjcchlfbglaaGreatE
/- What an operation's answer hangs on. -/
namespace Go.Proofs.YtiemjcchlfbglaaGreatE
open Go
set_option linter.unusedSimpArgs false
set_option linter.unusedVariables false

section
variable {P : Program}

theorem look_cases {h h' : List AObj} {b : Nat} (hl : (h[b]?).map roO = (h'[b]?).map roO) : (h[b]? = none ∧ h'[b]? = none) ∨ ∃ ob ob', h[b]? = some ob ∧ h'[b]? = some ob' ∧ roO ob = roO ob' := by
  cases h1 : h[b]? with
  | none => cases h2 : h'[b]? with
    | none => exact .inl ⟨rfl, rfl⟩
    | some ob' => rw [h1, h2] at hl; cases hl
  | some ob => cases h2 : h'[b]? with
    | none => rw [h1, h2] at hl; cases hl
    | some ob' => rw [h1, h2] at hl; exact .inr ⟨ob, ob', rfl, rfl, Option.some.inj hl⟩

def ptrOf : AV → Option Nat
  | .ptr b _ | .eptr b _ _ => some b
  | _ => none
theorem loadA_local {h h' : List AObj} {t : TypeId} {p : AV} (hl : ∀ b, ptrOf p = some b → (h[b]?).map roO = (h'[b]?).map roO) : loadA P h t p = loadA P h' t p := by
  cases p <;> try rfl
  case ptr o off =>
    rcases look_cases (hl o rfl) with ⟨h1, h2⟩ | ⟨ob, ob', h1, h2, h3⟩
    · simp only [loadA, h1, h2]
    · simp only [loadA, h1, h2]
      cases ob <;> cases ob' <;> simp [roO] at h3 <;> first | rfl | (subst h3; rfl) | (obtain ⟨rfl, rfl⟩ := h3; rfl) | simp
  case eptr o i f =>
    rcases look_cases (hl o rfl) with ⟨h1, h2⟩ | ⟨ob, ob', h1, h2, h3⟩
    · simp only [loadA, h1, h2]
    · simp only [loadA, h1, h2]
      cases ob <;> cases ob' <;> simp [roO] at h3 <;> first | rfl | (obtain ⟨rfl, rfl, rfl⟩ := h3; rfl) | simp

def objOf : AV → Option Nat
  | .sl b _ _ | .ptr b _ | .eptr b _ _ => some b
  | _ => none
theorem sliceA_local {h h' : List AObj} {t : TypeId} {x : AV} {lo hi mx : Option AV} (hl : ∀ b, objOf x = some b → (h[b]?).map roO = (h'[b]?).map roO) : sliceA P h t x lo hi mx = sliceA P h' t x lo hi mx := by
  cases x <;> cases mx <;> try rfl
  case sl.none o off len =>
    unfold sliceA
    cases hu : P.underlying t with
    | none => rcases look_cases (hl o rfl) with ⟨h1, h2⟩ | ⟨ob, ob', h1, h2, h3⟩ <;> simp [h1, h2]
    | some d =>
      rcases look_cases (hl o rfl) with ⟨h1, h2⟩ | ⟨ob, ob', h1, h2, h3⟩
      · simp [h1, h2]
      · cases d <;> cases ob <;> cases ob' <;> simp [roO] at h3 <;> simp [h1, h2, h3]
theorem indexAddrA_local {h h' : List AObj} {t : TypeId} {x i : AV} (hl : ∀ b, objOf x = some b → (h[b]?).map roO = (h'[b]?).map roO) : indexAddrA P h t x i = indexAddrA P h' t x i := by
  cases i <;> try rfl
  unfold indexAddrA
  cases hu : P.underlying t with
  | none => rfl
  | some d =>
    cases x <;> cases d <;> try rfl
    case sl.slice o off len e =>
      rcases look_cases (hl o rfl) with ⟨h1, h2⟩ | ⟨ob, ob', h1, h2, h3⟩
      · simp [h1, h2]
      · cases ob <;> cases ob' <;> simp [roO] at h3 <;> simp [h1, h2, h3]
    case ptr.array o off n e =>
      rcases look_cases (hl o rfl) with ⟨h1, h2⟩ | ⟨ob, ob', h1, h2, h3⟩
      · simp [h1, h2]
      · cases ob <;> cases ob' <;> simp [roO] at h3 <;> simp [h1, h2]
theorem fieldAddrA_local {h h' : List AObj} {s : TypeId} {x : AV} {f : Nat} (hl : ∀ b, objOf x = some b → (h[b]?).map roO = (h'[b]?).map roO) : fieldAddrA P h s x f = fieldAddrA P h' s x f := by
  unfold fieldAddrA
  cases hu : P.underlying s with
  | none => rfl
  | some d =>
    cases d <;> try rfl
    rename_i fs
    simp only
    cases hf : fs[f]? with
    | none => rfl
    | some fd =>
      cases x <;> try rfl
      case ptr o off =>
        rcases look_cases (hl o rfl) with ⟨h1, h2⟩ | ⟨ob, ob', h1, h2, h3⟩
        · simp [h1, h2]
        · cases ob <;> cases ob' <;> simp [roO] at h3 <;> simp [h1, h2]
      case eptr o i g =>
        rcases look_cases (hl o rfl) with ⟨h1, h2⟩ | ⟨ob, ob', h1, h2, h3⟩
        · simp [h1, h2]
        · cases ob <;> cases ob' <;> simp [roO] at h3 <;> simp [h1, h2]
theorem convA_local {h h' : List AObj} {ix : Nat} {src dst : TypeId} {x : AV} (hl : ∀ b, objOf x = some b → (h[b]?).map roO = (h'[b]?).map roO) : convA P h ix src dst x = convA P h' ix src dst x := by
  unfold convA
  cases hu : P.underlying src with
  | none => cases hv : P.underlying dst <;> rfl
  | some d =>
    cases hv : P.underlying dst with
    | none => cases d <;> rfl
    | some d2 =>
      cases d <;> cases d2 <;> cases x <;> try rfl
      case slice.string.sl e o off len =>
        rcases look_cases (hl o rfl) with ⟨h1, h2⟩ | ⟨ob, ob', h1, h2, h3⟩
        · simp [h1, h2]
        · cases ob <;> cases ob' <;> simp [roO] at h3 <;> try (simp [h1, h2]; done)
          obtain ⟨rfl, rfl, rfl⟩ := h3
          simp only [h1, h2]
          rcases P.underlying e with _ | d3 <;> first | rfl | (cases d3 <;> first | rfl | (rename_i k; cases k <;> rfl))

theorem nwA_local {ρ : Operand → AV} {h h' : List AObj} {ix : Nat} {o : Oper} (hl : ∀ b, readObj ρ o = some b → (h[b]?).map roO = (h'[b]?).map roO) : nwA P ρ h ix o = nwA P ρ h' ix o := by
  unfold nwA
  unfold readObj at hl
  split
  case h_8 t a hop =>
    rw [hop] at hl
    rw [loadA_local fun b hb => hl b ?_]
    simp only
    cases hx : ρ a <;> rw [hx] at hb <;> simp [ptrOf] at hb <;> simp [hb]
  case h_12 src dst x hop =>
    rw [hop] at hl
    refine convA_local fun b hb => hl b ?_
    simp only
    cases hx : ρ x <;> rw [hx] at hb <;> simp [objOf] at hb <;> simp [hb]
  case h_16 t x lo hi mx hop =>
    rw [hop] at hl
    rw [sliceA_local fun b hb => hl b ?_]
    simp only
    cases hx : ρ x <;> rw [hx] at hb <;> simp [objOf] at hb <;> simp [hb]
  case h_17 s x f hop =>
    rw [hop] at hl
    rw [fieldAddrA_local fun b hb => hl b ?_]
    simp only
    cases hx : ρ x <;> rw [hx] at hb <;> simp [objOf] at hb <;> simp [hb]
  case h_19 t x i hop =>
    rw [hop] at hl
    rw [indexAddrA_local fun b hb => hl b ?_]
    simp only
    cases hx : ρ x <;> rw [hx] at hb <;> simp [objOf] at hb <;> simp [hb]
  all_goals rfl

/-- What it reads is there. -/
theorem nwA_reads {ρ : Operand → AV} {h : List AObj} {ix : Nat} {o : Oper} {r : AV × Option AObj} (hn : nwA P ρ h ix o = some r) {b : Nat} (hb : readObj ρ o = some b) : b < h.length := by
  rcases Nat.lt_or_ge b h.length with hlt | hge
  · exact hlt
  · exfalso
    have hnone : h[b]? = none := List.getElem?_eq_none hge
    unfold readObj at hb
    unfold nwA at hn
    split at hb
    · rename_i t a hop
      simp only [hop] at hn
      cases ha : ρ a <;> simp only [ha] at hb <;> first
        | (cases hb; done)
        | (cases hb; simp [ha, loadA, hnone] at hn; done)
    · rename_i t x i hop
      simp only [hop] at hn
      cases ha : ρ x <;> simp only [ha] at hb <;> first
        | (cases hb; done)
        | (cases hb; cases hi : ρ i <;> simp [ha, hi, indexAddrA] at hn <;> rcases hu : P.underlying t with _ | d <;> (first | (simp [hu] at hn; done) | (cases d <;> simp [hu, hnone] at hn)))
    · rename_i t x lo hi mx hop
      simp only [hop] at hn
      cases ha : ρ x <;> simp only [ha] at hb <;> first
        | (cases hb; done)
        | (cases hb; cases hm : mx.map ρ <;> simp [ha, hm, sliceA, hnone] at hn; done)
    · rename_i src dst x hop
      simp only [hop] at hn
      cases ha : ρ x <;> simp only [ha] at hb <;> first
        | (cases hb; done)
        | (cases hb
           rw [ha] at hn
           unfold convA at hn
           split at hn <;> simp_all)
    · rename_i s x f hop
      simp only [hop] at hn
      cases ha : ρ x <;> simp only [ha] at hb <;> first
        | (cases hb; done)
        | (cases hb
           simp only [ha, fieldAddrA] at hn
           cases hu : P.underlying s with
           | none => simp [hu] at hn
           | some d =>
             cases d <;> simp only [hu] at hn <;> try (simp at hn; done)
             rename_i fs
             cases hf : fs[f]? with
             | none => simp [hf] at hn
             | some fd => simp [hf, hnone] at hn)
    · cases hb

theorem nwA_congr {ρ ρ' : Operand → AV} {h : List AObj} {ix : Nat} {o : Oper} (hx : ∀ x ∈ o.op.operands, ρ x = ρ' x) : nwA P ρ h ix o = nwA P ρ' h ix o := by
  obtain ⟨dst, op, type, pos, after, guard⟩ := o
  simp only at hx
  have pairs : ∀ ps : Array (Nat × Operand), (∀ x ∈ ps.toList.map (·.2), ρ x = ρ' x) → (ps.toList.map fun p => (p.1, ρ p.2)) = (ps.toList.map fun p => (p.1, ρ' p.2)) := fun ps hp =>
    List.map_congr_left fun p hm => by rw [hp p.2 (List.mem_map.2 ⟨p, hm, rfl⟩)]
  have lst : ∀ l : Array Operand, (∀ x ∈ l, ρ x = ρ' x) → l.toList.map ρ = l.toList.map ρ' := fun l hp => List.map_congr_left fun x hm => hp x (by simpa using hm)
  cases op <;> simp only [Op.operands] at hx <;> simp only [nwA]
  case build t ps => rw [pairs ps fun x h => hx x (by simpa using h)]
  case buildSlice t n ps => rw [pairs ps fun x h => hx x (by simpa using h)]
  case makeFunc f first caps => rw [lst first fun x h => hx x (by simp [h]), lst caps fun x h => hx x (by simp [h])]
  case slice t x lo hi mx => cases lo <;> cases hi <;> cases mx <;> simp_all
  case call cl =>
    obtain ⟨callee, args, tys⟩ := cl
    have ha : args.toList.map ρ = args.toList.map ρ' := lst args fun x h => hx x (by simp [Call.operands, h])
    cases callee with
    | builtin b =>
      cases b <;> simp only [ha]
      case len =>
        split
        · rename_i x t h1 h2
          rw [hx x (by simp [Call.operands]; have : x ∈ args.toList := by rw [h1]; simp
                       simpa using this)]
        · rfl
    | _ => rfl
  all_goals first | rfl | (simp_all; done)

theorem calleeA_congr {ρ ρ' : Operand → AV} {op : Op} (hx : ∀ x ∈ op.operands, ρ x = ρ' x) : calleeA P ρ op = calleeA P ρ' op := by
  cases op <;> try rfl
  case call cl =>
    obtain ⟨callee, args, tys⟩ := cl
    have ha : args.toList.map ρ = args.toList.map ρ' := List.map_congr_left fun x hm => hx x (by have : x ∈ args := by simpa using hm
                                                                                                 simp [Op.operands, Call.operands, this])
    cases callee with
    | builtin b => rfl
    | value f => simp only [calleeA, ha, hx f (by simp [Op.operands, Call.operands])]
    | invoke r m => simp only [calleeA, ha, hx r (by simp [Op.operands, Call.operands])]
theorem wrA_congr {C : Ctx} {ρ ρ' : Operand → AV} {h : List AObj} {o : Oper} (hx : ∀ x ∈ o.op.operands, ρ x = ρ' x) : wrA C ρ h o = wrA C ρ' h o := by
  obtain ⟨dst, op, type, pos, after, guard⟩ := o
  simp only at hx
  have hc := calleeA_congr (P := C.P) hx
  cases op <;> simp only [wrA] <;> try rw [hc]
  case store t a v => rw [hx a (by simp [Op.operands]), hx v (by simp [Op.operands])]
  case next it s => cases s <;> simp only [hx it (by simp [Op.operands])] <;> first | rfl | rw [hc]
  case call cl =>
    obtain ⟨callee, args, tys⟩ := cl
    cases callee with
    | builtin b =>
      cases b <;> simp only
      all_goals
        split
        · rename_i x y h1
          have e1 : x ∈ args := by have : x ∈ args.toList := by rw [h1]; simp
                                   simpa using this
          have e2 : y ∈ args := by have : y ∈ args.toList := by rw [h1]; simp
                                   simpa using this
          rw [hx x (by simp [Op.operands, Call.operands, e1]), hx y (by simp [Op.operands, Call.operands, e2])]
        · rfl
    | value f => simp only [hc]
    | invoke r m => simp only [hc]
theorem nwA_alive {ρ : Operand → AV} {h : List AObj} {ix : Nat} {o : Oper} {v : AV} {ob : AObj} (hn : nwA P ρ h ix o = some (v, some ob)) : ob ≠ .dead := by
  intro e
  subst e
  have hno : ∀ {u : Option AV}, (u.map fun v => (v, (none : Option AObj))) = some (v, some .dead) → False := fun hu => by
    rw [Option.map_eq_some_iff] at hu
    obtain ⟨_, _, he⟩ := hu
    cases he
  unfold nwA at hn
  split at hn
  case h_3 => split at hn <;> first | (cases hn; done) | (split at hn <;> cases hn)
  case h_4 =>
    rw [Option.bind_eq_some_iff] at hn
    obtain ⟨z, _, hn⟩ := hn
    split at hn
    · simp only [Option.some.injEq, Prod.mk.injEq] at hn
      obtain ⟨_, he⟩ := hn
      split at he <;> cases he
    · cases hn
  case h_5 =>
    rw [Option.map_eq_some_iff] at hn
    obtain ⟨_, _, he⟩ := hn
    cases he
  case h_6 =>
    rw [Option.bind_eq_some_iff] at hn
    obtain ⟨z, _, hn⟩ := hn
    rw [Option.bind_eq_some_iff] at hn
    obtain ⟨z, _, hn⟩ := hn
    rw [Option.map_eq_some_iff] at hn
    obtain ⟨_, _, he⟩ := hn
    cases he
  case h_7 =>
    split at hn <;> try (cases hn; done)
    split at hn <;> try (cases hn; done)
    split at hn <;> try (cases hn; done)
    rw [Option.map_eq_some_iff] at hn
    obtain ⟨_, _, he⟩ := hn
    cases he
  case h_9 => split at hn <;> cases hn
  case h_12 =>
    unfold convA at hn
    split at hn <;> try (cases hn; done)
    all_goals
      split at hn <;> try (cases hn; done)
      all_goals split at hn <;> cases hn
  case h_13 =>
    split at hn <;> try (cases hn; done)
    split at hn <;> cases hn
  case h_15 =>
    unfold makeA at hn
    split at hn <;> try (cases hn; done)
    split at hn <;> try (cases hn; done)
    split at hn <;> try (cases hn; done)
    split at hn <;> cases hn
  case h_22 => split at hn <;> first | (cases hn; done) | exact hno hn
  case h_23 => split at hn <;> cases hn
  case h_24 => split at hn <;> first | (cases hn; done) | exact hno hn
  all_goals first | exact hno hn | (cases hn; done)
end
end Go.Proofs.YtiemjcchlfbglaaGreatE
