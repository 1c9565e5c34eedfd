/- Operations that write nothing that was there: what the interpreter answers, the model answers. -/
import Derived.Test.YthihinlamlamhaaEvC
namespace Go.Proofs.YthihinlamlamhaaE
open Go

section
variable {P : Program}

theorem info_of {t : TypeId} {d : TypeDesc} (h : P.underlying t = some d) : ∃ i, P.info? t = some i := by
  unfold Program.underlying at h
  cases hi : P.info? t with
  | none => simp [hi] at h
  | some i => exact ⟨i, rfl⟩
theorem run_size {t : TypeId} {d : TypeDesc} (h : P.underlying t = some d) (w : World) : (sizeOf t).run P w = .ok (szOf P t) w := by
  obtain ⟨i, hi⟩ := info_of h
  simp [sizeOf, typeInfo, hi, szOf, Program.cellsOf]
theorem run_size' {t : TypeId} (h : szOf P t ≠ 0) (w : World) : (sizeOf t).run P w = .ok (szOf P t) w := by
  cases hi : P.info? t with
  | none => simp [szOf, Program.cellsOf, hi] at h
  | some i => simp [sizeOf, typeInfo, hi, szOf, Program.cellsOf]
theorem isAgg_some {t : TypeId} {b : Bool} (h : isAggT P t = some b) : ∃ d, P.underlying t = some d := by
  unfold isAggT at h
  cases hd : P.underlying t with
  | none => simp [hd] at h
  | some d => exact ⟨d, rfl⟩
theorem run_isAggT {t : TypeId} {b : Bool} (h : isAggT P t = some b) (w : World) : (isAgg t).run P w = .ok b w := by
  obtain ⟨d, hd⟩ := isAgg_some h
  unfold isAggT at h
  rw [hd] at h
  cases d <;> simp at h <;> subst h <;> simp [isAgg, run_underlying hd]
end

section
variable {E : En}

theorem rdK_ok {k : K} {v : AV} (h : kOk k v = true) : rdK k v = v := by
  cases k with
  | int k => cases v <;> simp [kOk] at h; subst h; rfl
  | bool => cases v <;> simp [kOk] at h; rfl
  | str => cases v <;> simp [kOk] at h; rfl
  | any => rfl
theorem rowOk.k {sh : List K} {r : List AV} (h : rowOk sh r) {j : Nat} {k : K} {v : AV} (hk : sh[j]? = some k) (hv : r[j]? = some v) : kOk k v = true := by
  have := h.2
  rw [List.all_eq_true] at this
  have hz : (sh.zip r)[j]? = some (k, v) := by simp [List.getElem?_zip_eq_some, hk, hv]
  exact this _ (List.mem_of_getElem? hz)
theorem rowCells_eq {sh : List K} {cs : List AV} {f n : Nat} (h : rowOk sh cs) (hf : f + n ≤ sh.length) : rowCells sh cs f n = (cs.drop f).take n := by
  apply List.ext_getElem?
  intro j
  unfold rowCells
  rw [List.getElem?_map, List.getElem?_take, List.getElem?_drop]
  by_cases hj : j < n
  · rw [if_pos hj, List.getElem?_range hj]
    have h1 : f + j < sh.length := by omega
    have h2 : f + j < cs.length := by rw [h.1]; exact h1
    have hk : sh[f + j]? = some sh[f + j] := List.getElem?_eq_getElem h1
    have hv : cs[f + j]? = some cs[f + j] := List.getElem?_eq_getElem h2
    simp only [Option.map_some, List.getD_eq_getElem?_getD, hk, hv, Option.getD_some, rdK_ok (h.k hk hv)]
  · rw [if_neg hj, List.getElem?_eq_none (by simp; omega)]
    rfl

theorem VR.one {v : AV} {cv : Value} (h : VR E v cv) (ha : ∀ cs, v ≠ .agg cs) (ht : ∀ vs, v ≠ .tup vs) (hg : v ≠ .gone) : cv.oneCell' = true := by
  cases v with
  | agg cs => exact absurd rfl (ha cs)
  | tup vs => exact absurd rfl (ht vs)
  | gone => exact absurd rfl hg
  | ptr o off =>
    simp only [VR] at h
    cases ho : E.h[o]? with
    | none => simp [ho] at h
    | some ob =>
      cases ob <;> simp [ho] at h
      · obtain ⟨_, ⟨_, _⟩, rfl⟩ := h; rfl
      · obtain ⟨_, ⟨_, _⟩, rfl⟩ := h; rfl
      · obtain ⟨_, rfl⟩ := h; rfl
  | eptr o i f =>
    simp only [VR] at h
    cases ho : E.h[o]? with
    | none => simp [ho] at h
    | some ob =>
      cases ob <;> simp [ho] at h
      · obtain ⟨_, ⟨_, _⟩, rfl⟩ := h; rfl
      · obtain ⟨_, rfl⟩ := h; rfl
  | sl o i f =>
    simp only [VR] at h
    cases ho : E.h[o]? with
    | none => simp [ho] at h
    | some ob =>
      cases ob <;> simp [ho] at h
      · obtain ⟨_, _, _, _, rfl, _⟩ := h; rfl
      · obtain ⟨_, _, rfl⟩ := h; rfl
  | int | bool | str | nilp | nils | nilf | nili => simp only [VR] at h; subst h; rfl
  | rptr => simp only [VR] at h; obtain ⟨_, _, rfl, _⟩ := h; rfl
  | row => simp only [VR] at h; obtain ⟨_, _, rfl, _⟩ := h; rfl
  | fn => simp only [VR] at h; obtain ⟨_, _, rfl, _⟩ := h; rfl
  | iface => simp only [VR] at h; obtain ⟨_, rfl, _⟩ := h; rfl

theorem cells_one {cv : Value} (h : cv.oneCell' = true) : cv.cells = #[cv] := by
  cases cv <;> simp [Value.oneCell'] at h <;> rfl

/-- The cells of a value. -/
theorem cells_ok {v : AV} {cv : Value} {cs : List AV} (h : VR E v cv) (hc : v.cells? = some cs) : VL E cs cv.cells.toList ∧ ∀ x ∈ cv.cells.toList, x.oneCell' = true := by
  cases v with
  | agg l =>
    simp only [AV.cells?, Option.some.injEq] at hc
    subst hc
    simp only [VR] at h
    obtain ⟨a, rfl, h1, h2⟩ := h
    exact ⟨h1, h2⟩
  | tup => simp [AV.cells?] at hc
  | gone => simp [AV.cells?] at hc
  | _ =>
    have h1 := h.one (by simp) (by simp) (by simp)
    simp only [AV.cells?, Option.some.injEq] at hc
    subst hc
    rw [cells_one h1]
    exact ⟨by simp [VL, h], by simpa using h1⟩

theorem cst0_ok (v : Value) : VR E (cst0 v) v := by
  unfold cst0
  split <;> simp [VR]
theorem cst_ok (v : Value) : VR E (cst v) v := by
  unfold cst
  split
  · split
    · rename_i cs h
      simp only [VR]
      refine ⟨cs, rfl, VL.of (by simp) fun i u c hu hc => ?_, by rw [List.all_eq_true] at h; exact h⟩
      rw [List.getElem?_map, hc] at hu
      simp at hu
      subst hu
      exact cst0_ok c
    · simp [VR]
  · split
    · rename_i vs h
      have : vs = #[] := by simpa using h
      subst this
      simp [VR, VL]
    · simp [VR]
  · exact cst0_ok _

theorem ev_ok {t : List AV} {a : Act} (h : VL E t a.tmps.toList) (x : Operand) : VR E (ev t x) (a.eval x) := by
  cases x with
  | tmp i =>
    simp only [ev, Act.eval]
    rw [List.getD_eq_getElem?_getD]
    cases hi : t[i]? with
    | none =>
      have : a.tmps.size ≤ i := by have := h.len; simp at this; rw [← this]; simpa using hi
      have h2 : a.tmps.getD i undef = undef := by simp [Array.getD, Nat.not_lt.2 this]
      rw [h2]
      simp [AV.undef, undef, VR, VL]
    | some v =>
      obtain ⟨c, hc, hr⟩ := h.get i v hi
      have : a.tmps[i]? = some c := by simpa using hc
      have h2 : a.tmps.getD i undef = c := by
        rw [Array.getD_eq_getD_getElem?, this]; rfl
      rw [h2]; exact hr
  | const v => exact cst_ok v
  | func f => simp only [ev, Act.eval, VR]; exact ⟨#[], #[], rfl, by simp [VL], by simp [VL]⟩
  | global g => simp [ev, VR]

theorem evs_ok {t : List AV} {a : Act} (h : VL E t a.tmps.toList) : ∀ l : List Operand, VL E (l.map (ev t)) (l.map a.eval)
  | [] => by simp [VL]
  | x :: l => by simp only [List.map_cons, VL]; exact ⟨ev_ok h x, evs_ok h l⟩

/-! ### Loads -/
theorem cells_at {P : Program} {w : World} {b off : Nat} {cs : List AV} (hc : ∀ j v, cs[j]? = some v → ∃ cv, w.cell? ⟨b, off + j, none⟩ = some cv ∧ cv.oneCell' = true ∧ VR E v cv) :
    ∃ l : List Value, VL E cs l ∧ (∀ x ∈ l, x.oneCell' = true) ∧ (loadCells ⟨b, off, none⟩ cs.length).run P w = .ok l.toArray w ∧ (∀ j v, l[j]? = some v → w.cell? ⟨b, off + j, none⟩ = some v) := by
  have hl : ∃ l : List Value, l.length = cs.length ∧ ∀ j u, l[j]? = some u → w.cell? ⟨b, off + j, none⟩ = some u := by
    refine ⟨(List.range cs.length).map fun j => (w.cell? ⟨b, off + j, none⟩).getD undef, by simp, fun j u hu => ?_⟩
    rw [List.getElem?_map] at hu
    by_cases hj : j < cs.length
    · rw [List.getElem?_range hj] at hu
      obtain ⟨cv, h1, _⟩ := hc j cs[j] (List.getElem?_eq_getElem hj)
      simp [h1] at hu
      rw [h1, hu]
    · rw [List.getElem?_eq_none (by simp; omega)] at hu
      simp at hu
  obtain ⟨l, hlen, hcell⟩ := hl
  have hr := run_loadCells_list (P := P) (w := w) ⟨b, off, none⟩ l fun j v hv => by rw [Addr.add_lit]; exact hcell j v hv
  refine ⟨l, VL.of hlen.symm fun i v c hv hcv => ?_, fun x hx => ?_, by rw [← hlen]; exact hr, hcell⟩
  · obtain ⟨cv, h1, _, h3⟩ := hc i v hv
    rw [hcell i c hcv] at h1
    cases h1
    exact h3
  · obtain ⟨i, hi⟩ := List.getElem?_of_mem hx
    have hlt : i < cs.length := by rw [← hlen]; exact (List.getElem?_eq_some_iff.1 hi).1
    obtain ⟨cv, h1, h2, _⟩ := hc i cs[i] (List.getElem?_eq_getElem hlt)
    rw [hcell i x hi] at h1
    cases h1
    exact h2
theorem load_ok {P : Program} {t : TypeId} {b off : Nat} {cs : List AV} {v : AV} (h : rdCells P t cs = some v)
    (hc : ∀ j v, cs[j]? = some v → ∃ cv, E.w.cell? ⟨b, off + j, none⟩ = some cv ∧ cv.oneCell' = true ∧ VR E v cv) :
    ∃ cv, (loadVar t ⟨b, off, none⟩).run P E.w = .ok cv E.w ∧ VR E v cv := by
  unfold rdCells at h
  split at h
  · rename_i hlen
    split at h
    · rename_i hagg
      cases h
      obtain ⟨d, hd⟩ := isAgg_some hagg
      obtain ⟨l, h1, h2, h3, _⟩ := cells_at (P := P) hc
      rw [hlen] at h3
      refine ⟨.agg l.toArray, by simp [loadVar, run_isAggT hagg, run_size hd, h3], ?_⟩
      simp only [VR]
      exact ⟨l.toArray, rfl, by simpa using h1, by simpa using h2⟩
    · rename_i hagg
      split at h
      · cases h
        obtain ⟨cv, h1, h2, h3⟩ := hc 0 _ rfl
        refine ⟨cv, ?_, h3⟩
        simp only [Nat.add_zero] at h1
        simp [loadVar, run_isAggT hagg, h1]
      · cases h
    · cases h
  · cases h
theorem cell_of_cells {w : World} {b : Nat} {a : Array Value} {e : TypeId} {fr : Nat × Nat} (h : w.heap[b]? = some (.cells a e fr)) (j : Nat) : w.cell? ⟨b, j, none⟩ = a[j]? := by
  simp [World.cell?, h]
theorem loadA_ok {P : Program} (s : Sim E) {t : TypeId} {p v : AV} {cp : Value} (hp : VR E p cp) (h : loadA P E.h t p = some v) :
    ∃ cv, (Instr.loadAt t cp).run P E.w = .ok cv E.w ∧ VR E v cv := by
  cases p <;> simp only [loadA] at h <;> try (cases h; done)
  case ptr o off =>
    simp only [VR] at hp
    cases ho : E.h[o]? with
    | none => simp [ho] at h
    | some ob =>
      cases ob with
      | box cs =>
        simp only [ho] at h hp
        obtain ⟨b, c, hι, rfl⟩ := hp
        obtain ⟨a, e, hb, hcs, h1⟩ := s.obj o b c _ hι ho
        obtain ⟨cv, hr, hv⟩ := load_ok (E := E) (b := b) (off := off) h fun j u hu => by
          rw [List.getElem?_take] at hu
          split at hu
          · rw [List.getElem?_drop] at hu
            obtain ⟨cu, hcu, hru⟩ := hcs.get _ u hu
            exact ⟨cu, by rw [cell_of_cells hb]; simpa using hcu, h1 cu (List.mem_of_getElem? hcu), hru⟩
          · cases hu
        exact ⟨cv, by simp [Instr.loadAt, Instr.sureAddr, hr], hv⟩
      | _ => simp [ho] at h
  case eptr o i f =>
    simp only [VR] at hp
    cases ho : E.h[o]? with
    | none => simp [ho] at h
    | some ob =>
      cases ob with
      | arr md e sh rs =>
        simp only [ho] at h hp
        obtain ⟨b, c, hι, rfl⟩ := hp
        split at h
        · rename_i hif
          obtain ⟨h0, a, lo, hi, hb, hsz, hlc, hcm, hrow, hRR, hfr⟩ := s.obj o b c _ hι ho
          have hri : rs[i]? = some rs[i] := List.getElem?_eq_getElem hif.1
          have hg : rs.getD i [] = rs[i] := by simp [List.getD_eq_getElem?_getD, hri]
          rw [hg, rowCells_eq (hrow _ (List.getElem_mem hif.1)) hif.2] at h
          have hCR := hRR.get i _ hri
          obtain ⟨cv, hr, hv⟩ := load_ok (E := E) (b := b) (off := i * sh.length + f) h fun j u hu => by
            rw [List.getElem?_take] at hu
            split at hu
            · rw [List.getElem?_drop] at hu
              have := hCR.get _ u hu
              rw [show 0 + i * sh.length + (f + j) = i * sh.length + f + j from by omega] at this
              exact this
            · cases hu
          exact ⟨cv, by simp [Instr.loadAt, Instr.sureAddr, hr], hv⟩
        · cases h
      | _ => simp [ho] at h
  case rptr sh cs f =>
    simp only [VR] at hp
    obtain ⟨b, off, rfl, hst, hrow, _, hCR⟩ := hp
    split at h
    · rename_i hf
      rw [rowCells_eq hrow hf] at h
      obtain ⟨cv, hr, hv⟩ := load_ok (E := E) (b := b) (off := off + f) h fun j u hu => by
        rw [List.getElem?_take] at hu
        split at hu
        · rw [List.getElem?_drop] at hu
          have := hCR.get _ u hu
          rw [show off + (f + j) = off + f + j from by omega] at this
          exact this
        · cases hu
      exact ⟨cv, by simp [Instr.loadAt, Instr.sureAddr, hr], hv⟩
    · cases h
end
end Go.Proofs.YthihinlamlamhaaE
