/- Each operation that writes nothing that was there. -/
import Derived.Test.YthihinlamlamhaaEvE
namespace Go.Proofs.YthihinlamlamhaaE
open Go

section
variable {P : Program} {E : En}

/-- What an operation of the model must do for the interpreter's answer. -/
def Does (P : Program) (E : En) (ix : Nat) (s : Sem Value) (v : AV) : Option AObj → Prop
  | none => ∃ cv, s.run P E.w = .ok cv E.w ∧ VR E v cv
  | some ob => ∃ cv w', s.run P E.w = .ok cv w' ∧ NewO E v ob ix cv w'

theorem alloc_ok {ix : Nat} {e : TypeId} {z : List AV} (h : zeroA P e = some z) : Does P E ix (Instr.alloc e true (.tuple #[])) (.ptr ix 0) (some (.box z)) := by
  obtain ⟨i, zv, hi, hz, h1, h2⟩ := zero_ok (E := E) h
  refine ⟨.pointer (some ⟨E.w.heap.size, 0, none⟩), E.w.alloc (.cells zv.cells e), ?_, newBox h1 h2 rfl⟩
  simp [Instr.alloc, run_zero hi hz, newVar, newRow]

theorem box_ok {ix : Nat} {e : TypeId} {v : AV} {cv : Value} {cs : List AV} (hv : VR E v cv) (h : v.cells? = some cs) : Does P E ix (Instr.box e cv) (.ptr ix 0) (some (.box cs)) := by
  obtain ⟨h1, h2⟩ := cells_ok hv h
  refine ⟨.pointer (some ⟨E.w.heap.size, 0, none⟩), E.w.alloc (.cells cv.cells e), ?_, newBox h1 h2 rfl⟩
  simp [Instr.box, newVar, newRow]

theorem build_ok {ix : Nat} {t : TypeId} {z cs : List AV} {pl : Nat → Option (Nat × Nat)} {parts : List (Nat × AV)} {cparts : Array (Nat × Value)} (hz : zeroA P t = some z) (hpl : placesA P t = some pl)
    (hp : PV E parts cparts.toList) (h : fillA pl z parts = some cs) : Does P E ix (Instr.build t cparts) (.agg cs) none := by
  obtain ⟨i, zv, hi, hzv, h1, h2⟩ := zero_ok (E := E) hz
  obtain ⟨a, h3, h4, h5⟩ := fill_ok pl parts cparts.toList z cs zv.cells hp h1 h2 h
  have hb : P.built t cparts.toList = some a := by
    unfold placesA at hpl
    cases hu : P.underlying t with
    | none => simp [hu] at hpl
    | some d =>
      cases d <;> simp [hu] at hpl
      · rename_i len e
        obtain ⟨ie, hie, rfl⟩ := hpl
        simp only [Program.built, hi, hu, hzv, hie]
        exact h3
      · rename_i fs
        obtain ⟨l, hl, rfl⟩ := hpl
        simp only [Program.built, hi, hu, hzv, hl]
        simpa using h3
  refine ⟨.agg a, run_build E.w t cparts a hb, ?_⟩
  simp only [VR]
  exact ⟨a, rfl, h4, h5⟩

theorem elemSh_ok {e : TypeId} {sh : List K} (h : elemSh P e = some sh) : sh.length = szOf P e ∧ 0 < sh.length := by
  unfold elemSh at h
  dsimp only at h
  split at h
  · rename_i hc; cases h; exact hc
  · cases h
theorem fillRows_ok {sh : List K} : ∀ (parts : List (Nat × AV)) (cparts : List (Nat × Value)) (rs rs' : List (List AV)) (a : Array Value), PV E parts cparts → (∀ r ∈ rs, rowOk sh r) → VL E rs.flatten a.toList → (∀ x ∈ a.toList, x.oneCell' = true) →
    fillRows sh rs parts = some rs' → ∃ a', Instr.fill (fun i => some (i * sh.length, sh.length)) a cparts = some a' ∧ (∀ r ∈ rs', rowOk sh r) ∧ rs'.length = rs.length ∧ VL E rs'.flatten a'.toList ∧ ∀ x ∈ a'.toList, x.oneCell' = true
  | [], [], rs, rs', a, _, hr, h, h1, hf => by simp [fillRows] at hf; subst hf; exact ⟨a, rfl, hr, rfl, h, h1⟩
  | [], _ :: _, _, _, _, hp, _, _, _, _ => by simp [PV] at hp
  | _ :: _, [], _, _, _, hp, _, _, _, _ => by simp [PV] at hp
  | (i, v) :: parts, (j, c) :: cparts, rs, rs', a, hp, hr, h, h1, hf => by
    simp only [PV] at hp
    obtain ⟨rfl, hv, hp⟩ := hp
    simp only [fillRows] at hf
    cases hc : v.cells? with
    | none => simp [hc] at hf
    | some new =>
      simp only [hc] at hf
      split at hf
      · rename_i hn
        obtain ⟨hn1, hn2, hn3⟩ := hn
        obtain ⟨k1, k2⟩ := cells_ok hv hc
        have hlen : c.cells.size = new.length := by have := k1.len; simpa using this.symm
        have hfl := flat_len (fun r hr' => (hr r hr').1)
        have hl := h.len
        simp at hl
        have hmul : i * sh.length + sh.length ≤ rs.length * sh.length := by rw [← Nat.succ_mul]; exact Nat.mul_le_mul_right _ hn2
        have hsz : a.size = rs.length * sh.length := by
          have := h.len
          rw [hfl] at this
          simpa using this.symm
        have hfit : i * sh.length + c.cells.size ≤ a.size := by omega
        have hfold := foldl_set c.cells.toList (i * sh.length) 0 a (by simpa using hfit)
        have hnew : (c.cells.zipIdx.foldl (fun cs (p : Value × Nat) => cs.setIfInBounds (i * sh.length + p.2) p.1) a).toList = a.toList.take (i * sh.length) ++ (c.cells.toList ++ a.toList.drop (i * sh.length + c.cells.toList.length)) := by
          rw [← Array.foldl_toList, Array.toList_zipIdx]
          simpa using hfold
        obtain ⟨a', h3, h4, h5, h6, h7⟩ := fillRows_ok parts cparts (rs.set i new) rs' (c.cells.zipIdx.foldl (fun cs (p : Value × Nat) => cs.setIfInBounds (i * sh.length + p.2) p.1) a) hp
          (fun r hr' => by
            rcases List.mem_or_eq_of_mem_set hr' with h | h
            · exact hr r h
            · subst h; exact ⟨hn1, hn3⟩)
          (by rw [hnew, flat_set (fun r hr' => (hr r hr').1) hn1 hn2]; exact h.setAll k1) (by
            rw [hnew]
            intro x hx
            rw [List.mem_append, List.mem_append] at hx
            rcases hx with hx | hx | hx
            · exact h1 x (List.mem_of_mem_take hx)
            · exact k2 x hx
            · exact h1 x (List.mem_of_mem_drop hx)) hf
        refine ⟨a', ?_, h4, by rw [h5]; simp, h6, h7⟩
        simp only [Instr.fill]
        rw [if_neg (by simp; omega)]
        exact h3
      · cases hf

theorem made_ok {z : List AV} {zv : Array Value} {n l cap : Nat} (h : VL E z zv.toList) (h1 : ∀ x ∈ zv.toList, x.oneCell' = true) (hz : z.length = n) (hn : 0 < n) (hl : l ≤ cap) :
    ∀ (j : Nat) (v : AV), ((List.replicate l z).flatten)[j]? = some v → ∃ c, (madeCells zv (cap * n))[j]? = some c ∧ c.oneCell' = true ∧ VR E v c := by
  intro j v hv
  have hlt : j < l * n := by
    have := (List.getElem?_eq_some_iff.1 hv).1
    rw [flat_len (n := n) (fun r hr => by rw [List.eq_of_mem_replicate hr]; exact hz)] at this
    simpa using this
  rw [flat_repl z hz hn l j hlt] at hv
  obtain ⟨c, hc, h2, h3⟩ := h.cell h1 hv
  refine ⟨c, ?_, h2, h3⟩
  have hs : zv.size = n := by have := h.len; simp at this; omega
  have hm : j < cap * n := Nat.lt_of_lt_of_le hlt (Nat.mul_le_mul_right _ hl)
  have hmod : j % n < zv.size := by rw [hs]; exact Nat.mod_lt _ hn
  simp only [madeCells, Array.getElem?_map, hs]
  rw [Array.getElem?_range, if_pos hm]
  simp only [Option.map_some, Option.some.injEq]
  rw [getElem!_pos zv _ hmod]
  have : zv[j % n]? = some c := by simpa using hc
  rw [Array.getElem?_eq_getElem hmod] at this
  exact Option.some.inj this
theorem zrow_ok {sh : List K} {z : List AV} {l : Nat} (h : z.length = sh.length) (hk : ((sh.zip z).all fun p => kOk p.1 p.2) = true) : ∀ r ∈ List.replicate l z, rowOk sh r :=
  fun r hr => by rw [List.eq_of_mem_replicate hr]; exact ⟨h, hk⟩

theorem make_ok {ix : Nat} {t : TypeId} {l c v : AV} {cl cc : Value} {ob : Option AObj} (hl : VR E l cl) (hc : VR E c cc) (h : makeA P t ix l c = some (v, ob)) : Does P E ix (Instr.makeSlice t cl cc) v ob := by
  unfold makeA at h
  split at h
  · rename_i kl l kc c
    simp only [VR] at hl hc
    subst hl; subst hc
    split at h
    · rename_i e hu
      split at h
      · rename_i sh z hsh hz
        split at h
        · rename_i hcond
          obtain ⟨h0, hlc, hby, h63, hzl, hzk⟩ := hcond
          cases h
          obtain ⟨i, zv, hi, hzv, h1, h2⟩ := zero_ok (E := E) hz
          obtain ⟨hs1, hs2⟩ := elemSh_ok hsh
          have hsz : i.size = sh.length := by rw [hs1]; simp [szOf, Program.cellsOf, hi]
          have hbb : P.bytesOf e = i.bytes := by simp [Program.bytesOf, hi]
          rw [hbb] at hby
          have hr := run_make (P := P) E.w t e i zv hu hi hzv kl kc l c h0 hlc (by omega) h63
          refine ⟨_, _, hr, ?_⟩
          have hna := newArr (E := E) (e := e) (sh := sh) (rs := List.replicate l.toNat z) (a := madeCells zv.cells (c.toNat * i.size)) (ix := ix) (md := 2) (cap := c.toNat) (fr := (0, 0)) hs2 (zrow_ok hzl hzk)
            (by rw [size_madeCells, hsz]) (by simp; omega) (by unfold maxLen; omega) (fun _ => ⟨rfl, rfl⟩) (fun i _ => by omega)
            (by rw [hsz]; exact made_ok h1 h2 hzl hs2 (by omega)) (w' := E.w.alloc (.cells (madeCells zv.cells (c.toNat * i.size)) e)) rfl rfl rfl rfl
          simpa using hna
        · cases h
      · cases h
    · cases h
  · cases h

theorem buildSlice_ok {ix : Nat} {t e : TypeId} {len : Nat} {sh : List K} {z : List AV} {rs : List (List AV)} {parts : List (Nat × AV)} {cparts : Array (Nat × Value)} (hu : P.underlying t = some (.slice e)) (hsh : elemSh P e = some sh)
    (hz : zeroA P e = some z) (hzl : z.length = sh.length) (hlen : len * sh.length ≤ 16777216) (hzk : ((sh.zip z).all fun p => kOk p.1 p.2) = true)
    (hp : PV E parts cparts.toList) (h : fillRows sh (List.replicate len z) parts = some rs) : Does P E ix (Instr.buildSlice t len cparts) (.sl ix 0 len) (some (.arr 2 e sh rs)) := by
  obtain ⟨i, zv, hi, hzv, h1, h2⟩ := zero_ok (E := E) hz
  obtain ⟨hs1, hs2⟩ := elemSh_ok hsh
  have hsz : i.size = sh.length := by rw [hs1]; simp [szOf, Program.cellsOf, hi]
  have hzs : zv.cells.size = sh.length := by have := h1.len; simp at this; omega
  have hVL : VL E (List.replicate len z).flatten (madeCells zv.cells (len * sh.length)).toList := VL.of
    (by rw [flat_len (n := sh.length) (fun r hr => (zrow_ok hzl hzk r hr).1)]; simp [size_madeCells]) fun j v c hv hc => by
      obtain ⟨c', hc', _, hr⟩ := made_ok h1 h2 hzl hs2 (Nat.le_refl len) j v hv
      rw [show (madeCells zv.cells (len * sh.length)).toList[j]? = (madeCells zv.cells (len * sh.length))[j]? from by simp] at hc
      rw [hc'] at hc; cases hc; exact hr
  have hone : ∀ x ∈ (madeCells zv.cells (len * sh.length)).toList, x.oneCell' = true := fun x hx => by
    obtain ⟨j, hj⟩ := List.getElem?_of_mem hx
    have hlt : j < len * sh.length := by have := (List.getElem?_eq_some_iff.1 hj).1; simpa [size_madeCells] using this
    have hfl : j < ((List.replicate len z).flatten).length := by rw [flat_len (n := sh.length) (fun r hr => (zrow_ok hzl hzk r hr).1)]; simpa using hlt
    obtain ⟨c', hc', ho, _⟩ := made_ok h1 h2 hzl hs2 (Nat.le_refl len) j _ (List.getElem?_eq_getElem hfl)
    rw [show (madeCells zv.cells (len * sh.length)).toList[j]? = (madeCells zv.cells (len * sh.length))[j]? from by simp, hc'] at hj
    cases hj; exact ho
  obtain ⟨a', h3, h4, h5, h6, h7⟩ := fillRows_ok parts cparts.toList _ rs (madeCells zv.cells (len * sh.length)) hp (zrow_ok hzl hzk) hVL hone h
  have hrl : rs.length = len := by rw [h5]; simp
  refine ⟨.slice (some ⟨E.w.heap.size, 0, none⟩) len len, E.w.alloc (.cells a' e), ?_, ?_⟩
  · simp only [Instr.buildSlice, Sem.run_bind, run_underlying hu, Result.andThen_ok, run_size' (P := P) (t := e) (by omega), ← hs1]
    rw [if_neg (by omega)]
    by_cases h0 : len * sh.length = 0
    · rw [if_pos h0]
      have : ((Array.range (len * sh.length)).map fun j => (#[] : Array Value)[j % (#[] : Array Value).size]!) = madeCells zv.cells (len * sh.length) := by simp [h0, madeCells]
      simp only [pure_bind, this, h3]
      simp [newRow]
    · rw [if_neg h0]
      have : ((Array.range (len * sh.length)).map fun j => zv.cells[j % zv.cells.size]!) = madeCells zv.cells (len * sh.length) := rfl
      simp only [Sem.run_bind, run_zero hi hzv, Result.andThen_ok, pure_bind, this, h3]
      simp [newRow]
  · have hna := newArr (E := E) (e := e) (sh := sh) (rs := rs) (a := a') (ix := ix) (md := 2) (cap := len) (fr := (0, 0)) hs2 h4
      (by have := h6.len; rw [flat_len (n := sh.length) (fun r hr => (h4 r hr).1), hrl] at this; simpa using this.symm) (by omega) (by unfold maxLen; have : len ≤ len * sh.length := Nat.le_mul_of_pos_right _ hs2; omega) (fun _ => ⟨rfl, rfl⟩) (fun i _ => by omega)
      (fun j v hv => by obtain ⟨c, hc, h8, h9⟩ := h6.cell h7 hv; exact ⟨c, by simpa using hc, h8, h9⟩) (w' := E.w.alloc (.cells a' e)) rfl rfl rfl rfl
    rw [hrl] at hna
    exact hna
end
end Go.Proofs.YthihinlamlamhaaE
