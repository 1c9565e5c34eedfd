/- Arithmetic, comparisons, conversions. -/
import Derived.Test.YthihinlamlamhaaEvH
import Derived.Laws.StructEq
import Derived.Laws.BytesString
namespace Go.Proofs.YthihinlamlamhaaE
open Go

section
variable {P : Program} {E : En}

theorem eqT_ok (w : World) : ∀ (d : Nat) (t : TypeId) (xs ys : List AV) (r : Bool), eqT P d t xs ys = some r → ∀ D, d ≤ D → ∀ (a b : Array Value), VL E xs a.toList → VL E ys b.toList →
    (isAggT P t = some true ∧ (Op.equalIn D t (.agg a) (.agg b)).run P w = .ok r w) ∨
    (isAggT P t = some false ∧ ∃ ca cb, a.toList = [ca] ∧ b.toList = [cb] ∧ (Op.equalIn D t ca cb).run P w = .ok r w)
  | 0, _, _, _, _, h, _, _, _, _, _, _ => by simp [eqT] at h
  | d + 1, t, xs, ys, r, h, D, hD, a, b, ha, hb => by
    obtain ⟨D, rfl⟩ : ∃ m, D = m + 1 := ⟨D - 1, by omega⟩
    simp only [eqT] at h
    cases hu : P.underlying t with
    | none => simp [hu] at h
    | some ty =>
    cases ty <;> simp only [hu] at h <;> try (cases h; done)
    case int k0 =>
      right
      split at h
      · rename_i k x k' y
        split at h
        · rename_i hk; cases h; subst hk
          obtain ⟨a⟩ := a; obtain ⟨b⟩ := b
          match a, b, ha, hb with
          | [c], [e], ha, hb =>
            simp only [VL, VR] at ha hb
            obtain ⟨rfl, _⟩ := ha; obtain ⟨rfl, _⟩ := hb
            exact ⟨by simp [isAggT, hu], _, _, rfl, rfl, run_equalIn_int w D t k k0 x y hu⟩
          | [], _, ha, _ => simp [VL] at ha
          | _ :: _ :: _, _, ha, _ => simp [VL] at ha
          | [_], [], _, hb => simp [VL] at hb
          | [_], _ :: _ :: _, _, hb => simp [VL] at hb
        · cases h
      · cases h
    case bool =>
      right
      split at h
      · rename_i x y
        cases h
        obtain ⟨a⟩ := a; obtain ⟨b⟩ := b
        match a, b, ha, hb with
        | [c], [e], ha, hb =>
          simp only [VL, VR] at ha hb
          obtain ⟨rfl, _⟩ := ha; obtain ⟨rfl, _⟩ := hb
          exact ⟨by simp [isAggT, hu], _, _, rfl, rfl, run_equalIn_bool w D t x y hu⟩
        | [], _, ha, _ => simp [VL] at ha
        | _ :: _ :: _, _, ha, _ => simp [VL] at ha
        | [_], [], _, hb => simp [VL] at hb
        | [_], _ :: _ :: _, _, hb => simp [VL] at hb
      · cases h
    case string =>
      right
      split at h
      · rename_i x y
        cases h
        obtain ⟨a⟩ := a; obtain ⟨b⟩ := b
        match a, b, ha, hb with
        | [c], [e], ha, hb =>
          simp only [VL, VR] at ha hb
          obtain ⟨rfl, _⟩ := ha; obtain ⟨rfl, _⟩ := hb
          exact ⟨by simp [isAggT, hu], _, _, rfl, rfl, run_equalIn_string w D t x y hu⟩
        | [], _, ha, _ => simp [VL] at ha
        | _ :: _ :: _, _, ha, _ => simp [VL] at ha
        | [_], [], _, hb => simp [VL] at hb
        | [_], _ :: _ :: _, _, hb => simp [VL] at hb
      · cases h
    case struct fs =>
      left
      split at h
      · cases h
      · rename_i hst
        refine ⟨by simp [isAggT, hu], ?_⟩
        have hf : P.fieldsOf t = fs := by simp [Program.fieldsOf, hu]
        rw [run_equalIn_struct w D t a b (by rw [hf]; exact hu) (by simpa using hst), hf]
        generalize fs.toList = l at h
        clear hu hst hf
        induction l generalizing r with
        | nil => simp [eqF] at h; subst h; simp [Op.eqFields]
        | cons f l ih =>
          simp only [eqF] at h
          split at h
          · cases h
          · rename_i hn
            rw [Option.bind_eq_some_iff] at h
            obtain ⟨r1, h1, h⟩ := h
            rw [Option.map_eq_some_iff] at h
            obtain ⟨r2, h2, rfl⟩ := h
            have hpa : (a.extract f.offset (f.offset + szOf P f.type)).toList = (a.toList.drop f.offset).take (szOf P f.type) := by simp [List.extract_eq_take_drop]
            have hpb : (b.extract f.offset (f.offset + szOf P f.type)).toList = (b.toList.drop f.offset).take (szOf P f.type) := by simp [List.extract_eq_take_drop]
            have key := eqT_ok w d f.type _ _ r1 h1 D (by omega) (a.extract f.offset (f.offset + szOf P f.type)) (b.extract f.offset (f.offset + szOf P f.type))
              (by rw [hpa]; exact (ha.drop _).take _) (by rw [hpb]; exact (hb.drop _).take _)
            have hparts : ∃ ca cb, (part f.type a f.offset).run P w = .ok ca w ∧ (part f.type b f.offset).run P w = .ok cb w ∧ (Op.equalIn D f.type ca cb).run P w = .ok r1 w := by
              rcases key with ⟨hag, hk⟩ | ⟨hag, ca, cb, e1, e2, hk⟩
              · obtain ⟨dd, hd⟩ := isAgg_some hag
                exact ⟨_, _, by simp [part, run_isAggT hag, run_size hd], by simp [part, run_isAggT hag, run_size hd], hk⟩
              · rw [hpa] at e1
                rw [hpb] at e2
                have g1 : a[f.offset]? = some ca := by
                  have : ((a.toList.drop f.offset).take (szOf P f.type))[0]? = some ca := by rw [e1]; rfl
                  rw [List.getElem?_take] at this
                  split at this
                  · simpa [List.getElem?_drop] using this
                  · cases this
                have g2 : b[f.offset]? = some cb := by
                  have : ((b.toList.drop f.offset).take (szOf P f.type))[0]? = some cb := by rw [e2]; rfl
                  rw [List.getElem?_take] at this
                  split at this
                  · simpa [List.getElem?_drop] using this
                  · cases this
                exact ⟨ca, cb, by simp [part, run_isAggT hag, g1], by simp [part, run_isAggT hag, g2], hk⟩
            obtain ⟨ca, cb, p1, p2, p3⟩ := hparts
            have hrest := ih r2 h2
            simp only [Op.eqFields, ne_eq, hn, not_false_eq_true, if_true, Sem.run_bind, p1, p2, p3, Result.andThen_ok]
            cases r1
            · simp
            · simpa using hrest

theorem un_ok {ix : Nat} {op : UnOp} {x v : AV} {cx : Value} (hx : VR E x cx) (h : unA op x = some v) : Does P E ix (Op.unary op cx) v none := by
  unfold unA at h
  cases x <;> simp only at h <;> try (cases h; done)
  case int k n =>
    simp only [VR] at hx; subst hx
    cases op <;> simp at h
    subst h
    exact ⟨_, by simp [Op.unary, Op.intArith]; rfl, by simp [VR]⟩
  case bool b =>
    simp only [VR] at hx; subst hx
    cases op <;> simp at h
    subst h
    exact ⟨_, by simp [Op.unary]; rfl, by simp [VR]⟩

theorem nil_ok {ix : Nat} {op : BinOp} {t : TypeId} {ox oy : Operand} {a : Option Addr} {l c : Nat} {v : AV} (h : nilA P op t a.isNone = some v) :
    Does P E ix (do eqGuard op t ox oy (.slice a l c) (.slice none 0 0); binOp op t (.slice a l c) (.slice none 0 0)) v none := by
  unfold nilA at h
  split at h
  · rename_i e hu; cases h
    refine ⟨.bool a.isNone, ?_, by simp [VR]⟩
    simp only [Sem.run_bind, binOp]
    simp [eqGuard, run_equal_slice_nil E.w t e a l c hu]
  · rename_i e hu; cases h
    refine ⟨.bool (!a.isNone), ?_, by simp [VR]⟩
    simp only [Sem.run_bind, binOp]
    simp [eqGuard, run_equal_slice_nil E.w t e a l c hu]
  · cases h

theorem bin_ok {ix : Nat} {op : BinOp} {t : TypeId} {ox oy : Operand} {x y v : AV} {cx cy : Value} (hx : VR E x cx) (hy : VR E y cy) (h : binA P op t x y = some v) :
    Does P E ix (do eqGuard op t ox oy cx cy; binOp op t cx cy) v none := by
  unfold binA at h
  split at h
  · rename_i k a k' b
    simp only [VR] at hx hy
    subst hx; subst hy
    have hg : (eqGuard op t ox oy (.int k a) (.int k' b)).run P E.w = .ok () E.w := by cases op <;> simp [eqGuard]
    have hb : ∀ cv, (binOp op t (.int k a) (.int k' b)).run P E.w = .ok cv E.w → (do eqGuard op t ox oy (.int k a) (.int k' b); binOp op t (.int k a) (.int k' b) : Sem Value).run P E.w = .ok cv E.w := fun cv hr => by
      simp only [Sem.run_bind, hg, Result.andThen_ok, hr]
    cases op <;> simp only [shA, intA] at h
    case shl =>
      split at h
      · cases h
      · rename_i hn; cases h
        exact ⟨_, hb _ (by simp only [binOp, Op.shift, if_neg hn]; rfl), by simp [VR]⟩
    case shr =>
      split at h
      · cases h
      · rename_i hn; cases h
        exact ⟨_, hb _ (by simp only [binOp, Op.shift, if_neg hn]; rfl), by simp [VR]⟩
    all_goals
      split at h
      · rename_i hk
        subst hk
        first
        | (cases h; done)
        | (cases h
           exact ⟨_, hb _ (by simp [binOp, Op.intArith, Op.intBits, Op.intCmp]; rfl), by simp [VR]⟩)
        | (split at h
           · cases h
           · rename_i hz; cases h
             exact ⟨_, hb _ (by simp [binOp, Op.intDiv, hz]; rfl), by simp [VR]⟩)
      · cases h
  · rename_i a b
    simp only [VR] at hx hy
    subst hx; subst hy
    have hg : (eqGuard op t ox oy (.string a) (.string b)).run P E.w = .ok () E.w := by cases op <;> simp [eqGuard]
    have hb : ∀ cv, (Op.stringOp op a b).run P E.w = .ok cv E.w → (do eqGuard op t ox oy (.string a) (.string b); binOp op t (.string a) (.string b) : Sem Value).run P E.w = .ok cv E.w := fun cv hr => by
      simp only [Sem.run_bind, hg, Result.andThen_ok, binOp]
      cases op <;> exact hr
    unfold strA at h
    cases op <;> simp only at h <;> try (cases h; done)
    case add =>
      split at h
      · cases h
      · rename_i hn; cases h
        exact ⟨_, hb _ (by simp only [Op.stringOp]; rw [if_neg hn]; rfl), by simp [VR]⟩
    case eql => cases h; exact ⟨_, hb _ (by simp only [Op.stringOp]; rfl), by simp [VR]⟩
    case neq => cases h; exact ⟨_, hb _ (by simp only [Op.stringOp]; rfl), by simp [VR]⟩
  · rename_i a b
    simp only [VR] at hx hy
    subst hx; subst hy
    split at h
    · rename_i hu; cases h
      exact ⟨.bool (a == b), by simp only [Sem.run_bind]; simp [eqGuard, run_eql_bool E.w t a b hu], by simp [VR]⟩
    · rename_i hu; cases h
      exact ⟨.bool !(a == b), by simp only [Sem.run_bind]; simp [eqGuard, run_neq_bool E.w t a b hu], by simp [VR]⟩
    · cases h
  · rename_i xs ys
    simp only [VR] at hx hy
    obtain ⟨a, rfl, ha, _⟩ := hx
    obtain ⟨b, rfl, hb, _⟩ := hy
    split at h
    · cases h
    · rename_i hm
      split at h
      · rename_i hag
        have hg := run_eqGuard_agg (P := P) E.w op t ox oy a b (by simpa using hm)
        cases op <;> simp only at h <;> try (cases h; done)
        case eql =>
          rw [Option.map_eq_some_iff] at h
          obtain ⟨r, h1, rfl⟩ := h
          rcases eqT_ok E.w 20 t xs ys r h1 10000 (by omega) a b ha hb with ⟨_, hk⟩ | ⟨hag', _⟩
          · exact ⟨.bool r, by simp only [Sem.run_bind, hg, Result.andThen_ok, run_eql_struct, hk], by simp [VR]⟩
          · rw [hag] at hag'; cases hag'
        case neq =>
          rw [Option.map_eq_some_iff] at h
          obtain ⟨r, h1, rfl⟩ := h
          rcases eqT_ok E.w 20 t xs ys r h1 10000 (by omega) a b ha hb with ⟨_, hk⟩ | ⟨hag', _⟩
          · exact ⟨.bool !r, by simp only [Sem.run_bind, hg, Result.andThen_ok, run_neq_struct, hk], by simp [VR]⟩
          · rw [hag] at hag'; cases hag'
      · cases h
  · rename_i nl sh rs
    simp only [VR] at hx hy
    subst hy
    obtain ⟨a, cap, rfl, _, _, h1, h2, _⟩ := hx
    have : a.isNone = nl := by
      cases nl
      · cases a
        · exact absurd rfl (h2 rfl)
        · rfl
      · rw [(h1 rfl).1]; rfl
    exact nil_ok (by rw [this]; exact h)
  · rename_i o off len
    simp only [VR] at hx hy
    subst hy
    cases ho : E.h[o]? with
    | none => simp [ho] at hx
    | some ob =>
      cases ob <;> simp only [ho] at hx <;> try (exact hx.elim)
      · obtain ⟨b, c, cap, _, rfl, _⟩ := hx
        exact nil_ok h
      · obtain ⟨a, cap, rfl⟩ := hx
        exact nil_ok h
  · simp only [VR] at hx hy
    subst hx; subst hy
    exact nil_ok h
  · cases h
end
end Go.Proofs.YthihinlamlamhaaE
