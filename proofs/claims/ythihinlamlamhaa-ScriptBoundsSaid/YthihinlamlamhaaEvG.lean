/- Addresses, parts, conversions, arithmetic. -/
import Derived.Test.YthihinlamlamhaaEvF
import Derived.Laws.Cover3
import Derived.Laws.Small
import Derived.Laws.IdiomStrings
namespace Go.Proofs.YthihinlamlamhaaE
open Go

section
variable {P : Program} {E : En}

def OV (E : En) : Option AV → Option Value → Prop
  | none, none => True
  | some v, some c => VR E v c
  | _, _ => False

theorem bounds_ok {sl : Bool} {len cap a b : Nat} {lo hi : Option AV} {clo chi : Option Value} (hlo : OV E lo clo) (hhi : OV E hi chi) (hlc : len ≤ cap)
    (h1 : boundA len hi len = some b) (h2 : boundA b lo 0 = some a) (w : World) : (Instr.sliceBounds sl len cap clo chi none).run P w = .ok (a, b, cap) w ∧ a ≤ b ∧ b ≤ len := by
  have hb : b ≤ len := by
    cases hi with
    | none => simp [boundA] at h1; omega
    | some v =>
      cases v <;> simp [boundA] at h1
      omega
  have ha : a ≤ b := by
    cases lo with
    | none => simp [boundA] at h2; omega
    | some v =>
      cases v <;> simp [boundA] at h2
      omega
  refine ⟨?_, ha, hb⟩
  have low : ∀ code : BoundsCode, ∀ v ci, lo = some v → clo = some ci → (Instr.sliceBound ci b code).run P w = .ok a w := by
    intro code v ci e1 e2
    subst e1; subst e2
    simp only [OV] at hlo
    cases v <;> simp [boundA] at h2
    simp only [VR] at hlo
    subst hlo
    obtain ⟨⟨h3, h4⟩, rfl⟩ := h2
    simp [Instr.sliceBound, asIntOf, h3, h4]
  have high : ∀ code : BoundsCode, ∀ v ci, hi = some v → chi = some ci → (Instr.sliceBound ci cap code).run P w = .ok b w := by
    intro code v ci e1 e2
    subst e1; subst e2
    simp only [OV] at hhi
    cases v <;> simp [boundA] at h1
    simp only [VR] at hhi
    subst hhi
    obtain ⟨⟨h3, h4⟩, rfl⟩ := h1
    simp [Instr.sliceBound, asIntOf, h3, show ∀ i : Int, i ≤ len → i ≤ cap from fun i hi => by omega, h4]
  cases hi with
  | none =>
    cases chi with
    | some c => simp [OV] at hhi
    | none =>
      simp [boundA] at h1
      subst h1
      cases lo with
      | none =>
        cases clo with
        | some c => simp [OV] at hlo
        | none => simp [boundA] at h2; subst h2; simp [Instr.sliceBounds]
      | some v =>
        cases clo with
        | none => simp [OV] at hlo
        | some c => simp [Instr.sliceBounds, low _ v c rfl rfl]
  | some u =>
    cases chi with
    | none => simp [OV] at hhi
    | some d =>
      cases lo with
      | none =>
        cases clo with
        | some c => simp [OV] at hlo
        | none => simp [boundA] at h2; subst h2; simp [Instr.sliceBounds, high _ u d rfl rfl]
      | some v =>
        cases clo with
        | none => simp [OV] at hlo
        | some c => simp [Instr.sliceBounds, high _ u d rfl rfl, low _ v c rfl rfl]

theorem RR.take {b n : Nat} {rs : List (List AV)} {off : Nat} (h : RR E b n off rs) (k : Nat) : RR E b n off (rs.take k) :=
  RR.of fun i r hr => by
    rw [List.getElem?_take] at hr
    split at hr
    · exact h.get i r hr
    · cases hr
theorem RR.drop {b n : Nat} {rs : List (List AV)} {off : Nat} (h : RR E b n off rs) (k : Nat) : RR E b n (off + k * n) (rs.drop k) :=
  RR.of fun i r hr => by
    rw [List.getElem?_drop] at hr
    have := h.get _ r hr
    rw [Nat.add_mul, ← Nat.add_assoc] at this
    exact this

theorem slice_ok {ix : Nat} {t : TypeId} {x v : AV} {cx : Value} {lo hi : Option AV} {clo chi cmx : Option Value} {mx : Option AV} (hx : VR E x cx) (hlo : OV E lo clo) (hhi : OV E hi chi) (hmx : OV E mx cmx)
    (h : sliceA P E.h t x lo hi mx = some v) : Does P E ix (Instr.sliceAt t cx clo chi cmx) v none := by
  unfold sliceA at h
  cases mx with
  | some m => simp at h
  | none =>
  cases cmx with
  | some c => simp [OV] at hmx
  | none =>
  cases x <;> simp only at h <;> try (cases h; done)
  case str s =>
    split at h
    · cases h
    · split at h
      · rename_i hu
        rw [Option.bind_eq_some_iff] at h
        obtain ⟨b, hb, h⟩ := h
        rw [Option.map_eq_some_iff] at h
        obtain ⟨a, ha, rfl⟩ := h
        simp only [VR] at hx
        subst hx
        obtain ⟨hr, h1, h2⟩ := bounds_ok (P := P) (sl := false) hlo hhi (Nat.le_refl _) hb ha E.w
        exact ⟨.string (s.extract a b), by simp [Instr.sliceAt, Instr.slice, run_underlying hu, hr], by simp [VR]⟩
      · cases h
  case nils =>
    split at h
    · rename_i e hu
      split at h
      · cases h
      · rename_i hz
        rw [Option.bind_eq_some_iff] at h
        obtain ⟨b, hb, h⟩ := h
        rw [Option.map_eq_some_iff] at h
        obtain ⟨a, ha, rfl⟩ := h
        simp only [VR] at hx
        subst hx
        obtain ⟨hr, h1, h2⟩ := bounds_ok (P := P) (sl := true) (len := 0) (cap := 0) hlo hhi (Nat.le_refl _) hb ha E.w
        have : a = 0 := by omega
        subst this
        have : b = 0 := by omega
        subst this
        exact ⟨.slice none 0 0, by simp [Instr.sliceAt, Instr.slice, run_underlying hu, hr, run_size' hz], by simp [VR]⟩
    · cases h
  case row nl sh rs =>
    split at h
    · rename_i e hu
      split at h
      · rename_i hsz
        rw [Option.bind_eq_some_iff] at h
        obtain ⟨b, hb, h⟩ := h
        rw [Option.map_eq_some_iff] at h
        obtain ⟨a, ha, rfl⟩ := h
        simp only [VR] at hx
        obtain ⟨base, cap, rfl, hlc, hcm, hn1, hn2, hrest⟩ := hx
        obtain ⟨hr, h1, h2⟩ := bounds_ok (P := P) (sl := true) (len := rs.length) (cap := cap) hlo hhi hlc hb ha E.w
        refine ⟨.slice (if cap = a then base else base.map (·.add (a * sh.length))) (b - a) (cap - a), by simp [Instr.sliceAt, Instr.slice, run_underlying hu, hr, run_size' (P := P) (t := e) (by omega), hsz.1], ?_⟩
        simp only [VR]
        have hlen : ((rs.take b).drop a).length = b - a := by simp; omega
        refine ⟨if cap = a then base else base.map (·.add (a * sh.length)), cap - a, by rw [hlen], by rw [hlen]; omega, by omega, fun hnl => ?_, fun hnl => ?_, ?_⟩
        · obtain ⟨rfl, rfl⟩ := hn1 hnl
          simp
        · have := hn2 hnl
          split
          · exact this
          · simpa using this
        · rcases hrest with rfl | ⟨h0, bb, off, rfl, hst, hrow, hpu, hRR⟩
          · left; simp
          · by_cases hca : cap = a
            · left
              have : (rs.take b).drop a = [] := List.drop_eq_nil_of_le (by simp; omega)
              exact this
            · right
              refine ⟨h0, bb, off + a * sh.length, by rw [if_neg hca]; simp [Addr.add_lit], hst, fun r hr' => hrow r (List.mem_of_mem_take (List.mem_of_mem_drop hr')), fun r hr' => hpu r (List.mem_of_mem_take (List.mem_of_mem_drop hr')), (hRR.take b).drop a⟩
      · cases h
    · cases h
  case sl o off len =>
    split at h
    · rename_i md e' sh rs e ho hu
      split at h
      · rename_i hsz
        rw [Option.bind_eq_some_iff] at h
        obtain ⟨b, hb, h⟩ := h
        rw [Option.bind_eq_some_iff] at h
        obtain ⟨a, ha, h⟩ := h
        split at h
        · rename_i hab
          cases h
          simp only [VR, ho] at hx
          obtain ⟨bb, c, cap, hι, rfl, hlc, hoc, hol⟩ := hx
          obtain ⟨hr, h1, h2⟩ := bounds_ok (P := P) (sl := true) (len := len) (cap := cap) hlo hhi hlc hb ha E.w
          refine ⟨.slice (some ⟨bb, (off + a) * sh.length, none⟩) (b - a) (cap - a), ?_, ?_⟩
          · have : (if cap = a then (some (⟨bb, off * sh.length, none⟩ : Addr)) else (some (⟨bb, off * sh.length, none⟩ : Addr)).map (·.add (a * sh.length))) = some ⟨bb, (off + a) * sh.length, none⟩ := by
              split
              · have : a = 0 := by omega
                simp [this]
              · simp [Addr.add_lit, Nat.add_mul]
            simp only [Instr.sliceAt, Instr.slice, Sem.run_bind, run_underlying hu, Result.andThen_ok, hr, run_size' (P := P) (t := e) (by omega), hsz.1, this, Sem.run_pure]
          · simp only [VR, ho]
            exact ⟨bb, c, cap - a, hι, rfl, by omega, by omega, by omega⟩
        · cases h
      · cases h
    · cases h

theorem indexAddr_ok {ix : Nat} {t : TypeId} {x i v : AV} {cx ci : Value} (hx : VR E x cx) (hi : VR E i ci) (h : indexAddrA P E.h t x i = some v) : Does P E ix (Instr.indexAt t cx ci) v none := by
  unfold indexAddrA at h
  cases i <;> simp only at h <;> try (cases h; done)
  rename_i k i
  simp only [VR] at hi
  subst hi
  cases hu : P.underlying t with
  | none => simp [hu] at h
  | some d =>
  cases d <;> simp only [hu] at h <;> try (cases h; done)
  case slice e =>
    cases x <;> simp only at h <;> try (cases h; done)
    case row nl sh rs =>
      split at h
      · rename_i hsz
        split at h
        · rename_i hi
          cases h
          simp only [VR] at hx
          obtain ⟨base, cap, rfl, hlc, hcm, hn1, hn2, hrest⟩ := hx
          rcases hrest with rfl | ⟨h0, bb, off, rfl, hst, hrow, hpu, hRR⟩
          · simp at hi; omega
          · have hlt : i.toNat < rs.length := by omega
            have hri : rs[i.toNat]? = some rs[i.toNat] := List.getElem?_eq_getElem hlt
            refine ⟨.pointer (some ⟨bb, off + i.toNat * sh.length, none⟩), ?_, ?_⟩
            · simp [Instr.indexAt, asIntOf, run_underlying hu, hi, run_size' (P := P) (t := e) (by omega), hsz, Addr.add_lit]
            · simp only [VR]
              refine ⟨bb, off + i.toNat * sh.length, by simp, hst, ?_, ?_, ?_⟩
              · simp only [List.getD_eq_getElem?_getD, hri, Option.getD_some]
                exact hrow _ (List.getElem_mem hlt)
              · simp only [List.getD_eq_getElem?_getD, hri, Option.getD_some]
                exact hpu _ (List.getElem_mem hlt)
              · simp only [List.getD_eq_getElem?_getD, hri, Option.getD_some]
                exact hRR.get _ _ hri
        · cases h
      · cases h
    case sl o off len =>
      split at h
      · rename_i md e' sh rs ho
        split at h
        · rename_i hsz
          split at h
          · rename_i hi
            cases h
            simp only [VR, ho] at hx
            obtain ⟨bb, c, cap, hι, rfl, hlc, hoc, hol⟩ := hx
            have h0 := hsz.2
            refine ⟨.pointer (some ⟨bb, (off + i.toNat) * sh.length, none⟩), ?_, ?_⟩
            · simp [Instr.indexAt, asIntOf, run_underlying hu, hi, run_size' (P := P) (t := e) h0, hsz.1, Addr.add_lit, Nat.add_mul]
            · simp only [VR, ho]
              exact ⟨bb, c, hι, by simp⟩
          · cases h
        · cases h
      · cases h
  case array n e =>
    cases x <;> simp only at h <;> try (cases h; done)
    case ptr o off =>
      split at h
      · rename_i cs ho
        split at h
        · rename_i hi
          cases h
          simp only [VR, ho] at hx
          obtain ⟨bb, c, hι, rfl⟩ := hx
          have h0 := hi.2.2
          have hi' : 0 ≤ i ∧ i < (n : Int) := ⟨hi.1, hi.2.1⟩
          refine ⟨.pointer (some ⟨bb, off + i.toNat * szOf P e, none⟩), ?_, ?_⟩
          · simp [Instr.indexAt, asIntOf, run_underlying hu, Instr.sureAddr, hi', run_size' (P := P) (t := e) h0, Addr.add_lit]
          · simp only [VR, ho]
            exact ⟨bb, c, hι, rfl⟩
        · cases h
      · cases h
end
end Go.Proofs.YthihinlamlamhaaE
