/- Parts, conversions, arithmetic. -/
import Derived.Test.YthihinlamlamhaaEvG
namespace Go.Proofs.YthihinlamlamhaaE
open Go

section
variable {P : Program} {E : En}

theorem fieldAddr_ok {ix : Nat} {s : TypeId} {x v : AV} {cx : Value} {f : Nat} (hx : VR E x cx) (h : fieldAddrA P E.h s x f = some v) : Does P E ix (Instr.fieldAt s cx f) v none := by
  unfold fieldAddrA at h
  split at h
  · rename_i fs hu
    split at h
    · rename_i fd hf
      split at h
      · cases h
      · rename_i hz
        have hp : ∀ (b o : Nat), (fieldPlace ⟨b, o, none⟩ fd).run P E.w = .ok ⟨b, o + fd.offset, none⟩ E.w := fun b o => by
          simp [fieldPlace, run_size' hz, hz, Addr.add_lit]
        cases x <;> simp only at h <;> try (cases h; done)
        case ptr o off =>
          split at h
          · rename_i cs ho
            cases h
            simp only [VR, ho] at hx
            obtain ⟨b, c, hι, rfl⟩ := hx
            refine ⟨.pointer (some ⟨b, off + fd.offset, none⟩), by simp [Instr.fieldAt, run_underlying hu, hf, Instr.sureAddr, hp], ?_⟩
            simp only [VR, ho]
            exact ⟨b, c, hι, rfl⟩
          · cases h
        case eptr o i g =>
          split at h
          · rename_i md e sh rs ho
            cases h
            simp only [VR, ho] at hx
            obtain ⟨b, c, hι, rfl⟩ := hx
            refine ⟨.pointer (some ⟨b, i * sh.length + g + fd.offset, none⟩), by simp [Instr.fieldAt, run_underlying hu, hf, Instr.sureAddr, hp], ?_⟩
            simp only [VR, ho]
            exact ⟨b, c, hι, by rw [Nat.add_assoc]⟩
          · cases h
        case rptr sh cs g =>
          cases h
          simp only [VR] at hx
          obtain ⟨b, off, rfl, hst, hrow, hpu, hCR⟩ := hx
          refine ⟨.pointer (some ⟨b, off + g + fd.offset, none⟩), by simp [Instr.fieldAt, run_underlying hu, hf, Instr.sureAddr, hp], ?_⟩
          simp only [VR]
          exact ⟨b, off, by rw [Nat.add_assoc], hst, hrow, hpu, hCR⟩
    · cases h
  · cases h

theorem part_ok {t : TypeId} {cs : List AV} {a : Array Value} {off : Nat} {v : AV} (hcs : VL E cs a.toList) (h1 : ∀ x ∈ a.toList, x.oneCell' = true) (h : partA P t cs off = some v) :
    ∃ cv, (part t a off).run P E.w = .ok cv E.w ∧ VR E v cv := by
  unfold partA rdCells at h
  split at h
  · rename_i hlen
    split at h
    · rename_i hagg
      cases h
      obtain ⟨d, hd⟩ := isAgg_some hagg
      refine ⟨.agg (a.extract off (off + szOf P t)), by simp [part, run_isAggT hagg, run_size hd], ?_⟩
      simp only [VR]
      have : (a.extract off (off + szOf P t)).toList = (a.toList.drop off).take (szOf P t) := by simp [List.extract_eq_take_drop]
      refine ⟨_, rfl, ?_, ?_⟩
      · rw [this]; exact (hcs.drop off).take _
      · rw [this]; intro x hx; exact h1 x (List.mem_of_mem_drop (List.mem_of_mem_take hx))
    · rename_i hagg
      split at h
      · rename_i c hc
        cases h
        have hget : cs[off]? = some v := by
          have h2 : ((cs.drop off).take (szOf P t))[0]? = some v := by rw [hc]; rfl
          rw [List.getElem?_take] at h2
          split at h2
          · simpa [List.getElem?_drop] using h2
          · cases h2
        obtain ⟨cv, hcv, hr⟩ := hcs.get off v hget
        have : a[off]? = some cv := by simpa using hcv
        exact ⟨cv, by simp [part, run_isAggT hagg, this], hr⟩
      · cases h
    · cases h
  · cases h

theorem field_ok {ix : Nat} {t : TypeId} {x v : AV} {cx : Value} {f : Nat} (hx : VR E x cx) (h : fieldA P t f x = some v) : Does P E ix (Instr.field t cx f) v none := by
  unfold fieldA at h
  cases x <;> simp only at h <;> try (cases h; done)
  rename_i cs
  split at h
  · rename_i fs hu
    split at h
    · rename_i fd hf
      simp only [VR] at hx
      obtain ⟨a, rfl, h1, h2⟩ := hx
      obtain ⟨cv, hr, hv⟩ := part_ok h1 h2 h
      exact ⟨cv, by simp [Instr.field, run_underlying hu, hf, asAgg, hr], hv⟩
    · cases h
  · cases h

theorem index_ok {ix : Nat} {t : TypeId} {x i v : AV} {cx ci : Value} (hx : VR E x cx) (hi : VR E i ci) (h : indexA P t x i = some v) : Does P E ix (Instr.index t cx ci) v none := by
  unfold indexA at h
  split at h
  · rename_i cs k i
    simp only [VR] at hx hi
    subst hi
    obtain ⟨a, rfl, h1, h2⟩ := hx
    split at h
    · rename_i n e hu
      split at h
      · rename_i hin
        have hz : szOf P e ≠ 0 ∨ szOf P e = 0 := by omega
        obtain ⟨cv, hr, hv⟩ := part_ok h1 h2 h
        have hs : (sizeOf e).run P E.w = .ok (szOf P e) E.w := by
          unfold partA rdCells at h
          split at h
          · cases hag : isAggT P e with
            | none => simp [hag] at h
            | some b => obtain ⟨d, hd⟩ := isAgg_some hag; exact run_size hd E.w
          · cases h
        exact ⟨cv, by simp [Instr.index, asIntOf, run_underlying hu, hin, hs, hr], hv⟩
      · cases h
    · cases h
  · rename_i s k i
    simp only [VR] at hx hi
    subst hi; subst hx
    split at h
    · rename_i hu
      split at h
      · rename_i hin
        cases h
        refine ⟨.int .u8 ((s.data.toList.getD i.toNat 0).toNat : Int), ?_, by simp [VR]⟩
        rw [run_index_string E.w t s k i hu, dif_pos hin]
        have hlt : i.toNat < s.size := by omega
        have : s.data.toList.getD i.toNat 0 = s[i.toNat] := by
          rw [List.getD_eq_getElem?_getD, List.getElem?_eq_getElem (by simpa using hlt)]
          rfl
        rw [this]
      · cases h
    · cases h
  · cases h

theorem assert_ok {ix : Nat} {xt as : TypeId} {ok : Bool} {x v : AV} {cx : Value} (hx : VR E x cx) (h : assertA P xt as ok x = some v) : Does P E ix (Instr.typeAssert cx xt as ok) v none := by
  unfold assertA at h
  cases x <;> simp only at h <;> try (cases h; done)
  rename_i t u
  simp only [VR] at hx
  obtain ⟨cu, rfl, hu⟩ := hx
  cases hd : P.underlying as with
  | none => simp [hd] at h
  | some d =>
    have hni : ∀ ms, d ≠ .interface ms := fun ms hm => by subst hm; simp [hd] at h
    have h' : (if t = as then some (if ok then AV.tup [u, .bool true] else u) else if ok then (match (P.info? as).bind (·.zero) with | some z => some (AV.tup [cst z, .bool false]) | none => none) else none) = some v := by
      cases d <;> simp only [hd] at h <;> first | exact h | (cases h; done)
    have hrun : (Instr.typeAssert (.iface t cu) xt as ok).run P E.w = (if t = as then (pure (if ok then .tuple #[cu, .bool true] else cu) : Sem Value) else if ok then (do pure (.tuple #[← zeroValue as, .bool false])) else runtimePanic (.typeAssertion (some xt) (some t) as "")).run P E.w := by
      simp only [Instr.typeAssert, Sem.run_bind, run_underlying hd, Result.andThen_ok]
    rw [Does, hrun]
    by_cases hta : t = as
    · rw [if_pos hta] at h'
      cases h'
      cases ok
      · exact ⟨cu, by simp [hta], hu⟩
      · exact ⟨.tuple #[cu, .bool true], by simp [hta], by simp only [VR, if_true]; exact ⟨_, rfl, by simp only [VL]; exact ⟨hu, by simp [VR], trivial⟩⟩⟩
    · rw [if_neg hta] at h'
      cases ok
      · simp at h'
      · simp only [if_true] at h'
        cases hi : P.info? as with
        | none => simp [hi] at h'
        | some i =>
          cases hz : i.zero with
          | none => simp [hi, hz] at h'
          | some z =>
            simp [hi, hz] at h'
            subst h'
            refine ⟨.tuple #[z, .bool false], by simp [hta, run_zero hi hz], ?_⟩
            simp only [VR]
            exact ⟨_, rfl, by simp only [VL]; exact ⟨cst_ok z, by simp [VR], trivial⟩⟩

theorem len_ok {ix : Nat} {t ty : TypeId} {x v : AV} {cx : Value} (hx : VR E x cx) (h : lenA P t x = some v) : Does P E ix (Builtin.len_ #[t] ty #[cx]) v none := by
  unfold lenA at h
  cases x <;> simp only at h <;> try (cases h; done)
  case str s =>
    split at h
    · rename_i hu; cases h
      simp only [VR] at hx; subst hx
      exact ⟨_, run_len_string (P := P) E.w t ty s hu, by simp [VR, goInt]⟩
    · cases h
  case row nl sh rs =>
    split at h
    · rename_i e hu; cases h
      simp only [VR] at hx
      obtain ⟨a, cap, rfl, _⟩ := hx
      exact ⟨goInt rs.length, by simp [Builtin.len_, run_underlying hu], by simp [VR, goInt]⟩
    · cases h
  case nils =>
    split at h
    · rename_i e hu; cases h
      simp only [VR] at hx; subst hx
      exact ⟨goInt 0, by simp [Builtin.len_, run_underlying hu], by simp [VR, goInt]⟩
    · cases h
  case sl o off len =>
    split at h
    · rename_i e hu; cases h
      simp only [VR] at hx
      cases ho : E.h[o]? with
      | none => simp [ho] at hx
      | some ob =>
        cases ob <;> simp only [ho] at hx <;> try (exact hx.elim)
        · obtain ⟨b, c, cap, _, rfl, _⟩ := hx
          exact ⟨goInt len, by simp [Builtin.len_, run_underlying hu], by simp [VR, goInt]⟩
        · obtain ⟨a, cap, rfl⟩ := hx
          exact ⟨goInt len, by simp [Builtin.len_, run_underlying hu], by simp [VR, goInt]⟩
    · cases h

theorem min_ok {ix : Nat} {ts : Array TypeId} {ty : TypeId} {l : List AV} {cl : Array Value} {v : AV} (hx : VL E l cl.toList) (h : minA l = some v) : Does P E ix (Builtin.min_ ts ty cl) v none := by
  unfold minA at h
  split at h
  · rename_i k x k' y
    split at h
    · rename_i hk; cases h; subst hk
      obtain ⟨cl⟩ := cl
      match cl, hx with
      | [c, d], hx =>
        simp only [VL, VR] at hx
        obtain ⟨rfl, rfl, _⟩ := hx
        exact ⟨_, run_min_int2 (P := P) E.w ts ty k k x y, by simp [VR]⟩
      | [], hx => simp [VL] at hx
      | [_], hx => simp [VL] at hx
      | _ :: _ :: _ :: _, hx => simp [VL] at hx
    · cases h
  · cases h
theorem max_ok {ix : Nat} {ts : Array TypeId} {ty : TypeId} {l : List AV} {cl : Array Value} {v : AV} (hx : VL E l cl.toList) (h : maxA l = some v) : Does P E ix (Builtin.max_ ts ty cl) v none := by
  unfold maxA at h
  split at h
  · rename_i k x k' y
    split at h
    · rename_i hk; cases h; subst hk
      obtain ⟨cl⟩ := cl
      match cl, hx with
      | [c, d], hx =>
        simp only [VL, VR] at hx
        obtain ⟨rfl, rfl, _⟩ := hx
        exact ⟨_, run_max_int2 (P := P) E.w ts ty k k x y, by simp [VR]⟩
      | [], hx => simp [VL] at hx
      | [_], hx => simp [VL] at hx
      | _ :: _ :: _ :: _, hx => simp [VL] at hx
    · cases h
  · cases h
end
end Go.Proofs.YthihinlamlamhaaE
