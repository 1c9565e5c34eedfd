/- An iterator's step; append. -/
import Derived.Test.YthihinlamlamhaaEvK
import Derived.Laws.AppendOwn
namespace Go.Proofs.YthihinlamlamhaaE
open Go

section
variable {P : Program} {E : En}

theorem next_ok {it v : AV} {ci : Value} {ty : TypeId} {h' : List AObj} (s : Sim E) (hi : VR E it ci) (h : nextA E.h it = some (v, h')) :
    ∃ cv w', (Instr.next ci true ty).run P E.w = .ok cv w' ∧ Sim ⟨E.ι, h', w', E.X⟩ ∧ Ext E ⟨E.ι, h', w', E.X⟩ ∧ Wd E.w w' ∧ VR ⟨E.ι, h', w', E.X⟩ v cv := by
  unfold nextA at h
  split at h
  · rename_i o
    split at h
    · rename_i s0 pos ho
      simp only [VR, ho] at hi
      obtain ⟨b, c, hι, rfl⟩ := hi
      have hb : E.w.heap[b]? = some (.stringIter s0 pos) := s.obj o b c _ hι ho
      have hlt : b < E.w.heap.size := (Array.getElem?_eq_some_iff.1 hb).1
      split at h
      · rename_i hpos
        cases h
        refine ⟨.tuple #[.bool true, .int .i64 pos, .int .i32 (Utf8.decode s0 pos).1], { E.w with heap := E.w.heap.setIfInBounds b (.stringIter s0 (pos + (Utf8.decode s0 pos).2)) }, ?_, ?_⟩
        · simp [Instr.next, getObj, setObj, Sem.run, hb, hpos, goInt]
        · have hm := mod_ok (w' := { E.w with heap := E.w.heap.setIfInBounds b (.stringIter s0 (pos + (Utf8.decode s0 pos).2)) }) (ob' := .iter s0 (pos + (Utf8.decode s0 pos).2)) s hι ho rfl rfl (fun _ _ _ _ _ _ _ _ e => by cases e) (by simp) (fun b' hb' => by simp [Ne.symm hb'])
            (fun _ => by simp [OR, hlt])
          exact ⟨hm.1, hm.2, ⟨rfl, rfl, rfl, by simp⟩, by simp [VR, VL]⟩
      · rename_i hpos
        cases h
        refine ⟨.tuple #[.bool false], E.w, ?_, s, Ext.refl E, Wd.refl _, by simp [VR, VL]⟩
        simp [Instr.next, getObj, Sem.run, hb, hpos]
    · cases h
  · cases h

/-- What an append reads. -/
theorem rows_ok {sh : List K} {x : AV} {cx : Value} {news : List (List AV)} (s : Sim E) (hx : VR E x cx) (h0 : 0 < sh.length) (h : rowsOf E.h sh x = some news) :
    ∃ arr : Array Value, (Builtin.lenOf cx).run P E.w = .ok news.length E.w ∧ (∀ w', w'.heap = E.w.heap → (Builtin.firstCells sh.length news.length cx).run P w' = .ok arr w') ∧
      VL E news.flatten arr.toList ∧ (∀ z ∈ arr.toList, z.oneCell' = true) ∧ ∀ r ∈ news, rowOk sh r := by
  have slice : ∀ (b off cap : Nat) (rs : List (List AV)), (∀ r ∈ rs, rowOk sh r) → RR E b sh.length off rs → ∃ arr : Array Value, (Builtin.lenOf (.slice (some ⟨b, off, none⟩) rs.length cap)).run P E.w = .ok rs.length E.w ∧
      (∀ w', w'.heap = E.w.heap → (Builtin.firstCells sh.length rs.length (.slice (some ⟨b, off, none⟩) rs.length cap)).run P w' = .ok arr w') ∧ VL E rs.flatten arr.toList ∧ (∀ z ∈ arr.toList, z.oneCell' = true) ∧ ∀ r ∈ rs, rowOk sh r := by
    intro b off cap rs hrow hRR
    have hc := RR.cells (fun r hr => (hrow r hr).1) hRR
    obtain ⟨l, h1, h2, _, h4⟩ := cells_at (P := P) (w := E.w) hc
    refine ⟨l.toArray, rfl, fun w' hw' => ?_, by simpa using h1, by simpa using h2, hrow⟩
    refine run_firstCells_some w' sh.length rs.length _ _ cap l ?_ fun j v hv => ?_
    · rw [← h1.len, flat_len fun r hr => (hrow r hr).1]
    · rw [Addr.add_lit]
      have := h4 j v hv
      simp only [World.cell?, hw'] at this ⊢
      exact this
  unfold rowsOf at h
  cases x <;> simp only at h <;> try (cases h; done)
  case str t =>
    split at h
    · rename_i hsh
      cases h; subst hsh
      simp only [VR] at hx; subst hx
      have hl : (bytesRows t.data.toList).length = t.size := by simp [bytesRows]
      have hflat : (bytesRows t.data.toList).flatten = t.data.toList.map fun b => AV.int .u8 b.toNat := by
        unfold bytesRows
        induction t.data.toList with
        | nil => rfl
        | cons b l ih => simp [ih]
      refine ⟨t.data.map fun b => .int .u8 b.toNat, by simp [Builtin.lenOf, hl], fun w' _ => ?_, ?_, ?_, ?_⟩
      · rw [hl]
        have : t.extract 0 t.size = t := by simp
        simp [Builtin.firstCells, this]
      · rw [hflat]
        refine VL.of (by simp) fun i v c hv hc => ?_
        rw [List.getElem?_map] at hv
        have hc' : (t.data.toList.map fun b => Value.int .u8 b.toNat)[i]? = some c := by simpa using hc
        rw [List.getElem?_map] at hc'
        cases hb : t.data.toList[i]? with
        | none => simp [hb] at hv
        | some b => simp [hb] at hv hc'; subst hv; subst hc'; simp [VR]
      · intro z hz
        simp at hz
        obtain ⟨b, _, rfl⟩ := hz
        rfl
      · intro r hr
        simp [bytesRows] at hr
        obtain ⟨b, _, rfl⟩ := hr
        exact ⟨rfl, by simp [kOk]⟩
    · cases h
  case nils =>
    cases h
    simp only [VR] at hx; subst hx
    exact ⟨#[], rfl, fun w' _ => by simp [Builtin.firstCells], by simp [VL], by simp, by simp⟩
  case row nl sh' rs =>
    split at h
    · rename_i hsh
      cases h; subst hsh
      simp only [VR] at hx
      obtain ⟨a, cap, rfl, _, _, _, _, hrest⟩ := hx
      rcases hrest with rfl | ⟨_, b, off, rfl, _, hrow, _, hRR⟩
      · refine ⟨#[], rfl, fun w' _ => ?_, by simp [VL], by simp, by simp⟩
        cases a <;> simp [Builtin.firstCells, loadCells, loadCellsFrom]
      · exact slice b off cap _ hrow hRR
    · cases h
  case sl o off len =>
    split at h
    · rename_i md e sh' rs ho
      split at h
      · rename_i hc
        obtain ⟨rfl, hol⟩ := hc
        cases h
        simp only [VR, ho] at hx
        obtain ⟨b, c, cap, hι, rfl, _, _, _⟩ := hx
        obtain ⟨_, a, lo, hi, hb, hsz, hlc, hcm, hrow, hRR, _⟩ := s.obj o b c _ hι ho
        have hlen : ((rs.drop off).take len).length = len := by simp; omega
        have := slice b (off * sh'.length) cap ((rs.drop off).take len) (fun r hr => hrow r (List.mem_of_mem_drop (List.mem_of_mem_take hr))) (by
          have h5 := (hRR.drop off).take len
          rw [Nat.zero_add] at h5
          exact h5)
        rw [hlen] at this
        rw [hlen]
        exact this
      · cases h
    · cases h

theorem app_room {st xt e ty : TypeId} {d : TypeDesc} {i : TypeInfo} {base : Option Addr} {sLen sCap n : Nat} {cx : Value} {arr : Array Value} {w : World} (hu : P.underlying st = some (.slice e)) (hx : P.underlying xt = some d) (hd : (∃ e', d = .slice e') ∨ d = .string)
    (hi : P.info? e = some i) (hl : (Builtin.lenOf cx).run P w = .ok n w) (hf : (Builtin.firstCells i.size n cx).run P w = .ok arr w) (hr : sLen + n ≤ sCap) :
    (Builtin.append_ #[st, xt] ty #[.slice base sLen sCap, cx]).run P w =
      match base with
      | some a => ((storeCells (a.add (sLen * i.size)) arr.toList).run P w).andThen fun _ w' => .ok (.slice base (sLen + n) sCap) w'
      | none => .ok (.slice none (sLen + n) sCap) w := by
  rcases hd with ⟨e', rfl⟩ | rfl <;> cases base <;> simp [Builtin.append_, run_underlying hu, run_underlying hx, sizeOf, typeInfo, hi, hl, hf, hr]
theorem app_grow {st xt e ty : TypeId} {d : TypeDesc} {i : TypeInfo} {z : Value} {base : Option Addr} {sLen sCap n : Nat} {cx : Value} {olds arr : Array Value} {w : World} (hu : P.underlying st = some (.slice e)) (hx : P.underlying xt = some d) (hd : (∃ e', d = .slice e') ∨ d = .string)
    (hi : P.info? e = some i) (hz : i.zero = some z) (hl : (Builtin.lenOf cx).run P w = .ok n w) (ho : (Builtin.firstCells i.size sLen (.slice base sLen sCap)).run P w.drew = .ok olds w.drew) (hf : (Builtin.firstCells i.size n cx).run P w.drew = .ok arr w.drew)
    (hr : sCap < sLen + n) (h63 : ((sLen + n : Nat) : Int) ≤ 9223372036854775807) (hfit : Builtin.nextslicecap (sLen + n) sCap * i.bytes ≤ 281474976710656) :
    (Builtin.append_ #[st, xt] ty #[.slice base sLen sCap, cx]).run P w =
      .ok (.slice (some ⟨w.heap.size, 0, none⟩) (sLen + n) (grownCap w (sLen + n) sCap e)) (w.drew.alloc (.cells (olds ++ arr ++ Builtin.zeroCells z.cells (grownCap w (sLen + n) sCap e - (sLen + n))) e)) := by
  have hn : ¬ (sLen + n ≤ sCap) := by omega
  have h63' : ¬ (9223372036854775807 < ((sLen : Int) + (n : Int))) := by omega
  have h48' : ¬ (281474976710656 < Builtin.nextslicecap (sLen + n) sCap * i.bytes) := by omega
  rcases hd with ⟨e', rfl⟩ | rfl <;> simp [Builtin.append_, run_underlying hu, run_underlying hx, sizeOf, typeInfo, zeroValue, hi, hz, hl, ho, hf, hn, h63', h48', Question.forced, newRow, grownCap]
end
end Go.Proofs.YthihinlamlamhaaE
