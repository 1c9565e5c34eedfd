/- What an operation's answer hangs on. -/
import Derived.Test.YthihinlamlamhaaEvS2
namespace Go.Proofs.YthihinlamlamhaaE
open Go
set_option linter.unusedSimpArgs false
set_option linter.unusedVariables false

section
variable {P : Program}

theorem look_cases {h h' : List AObj} {b : Nat} (hl : (h[b]?).map roO = (h'[b]?).map roO) : (h[b]? = none ∧ h'[b]? = none) ∨ ∃ ob ob', h[b]? = some ob ∧ h'[b]? = some ob' ∧ roO ob = roO ob' := by
  cases h1 : h[b]? with
  | none => cases h2 : h'[b]? with
    | none => exact .inl ⟨rfl, rfl⟩
    | some ob' => rw [h1, h2] at hl; cases hl
  | some ob => cases h2 : h'[b]? with
    | none => rw [h1, h2] at hl; cases hl
    | some ob' => rw [h1, h2] at hl; exact .inr ⟨ob, ob', rfl, rfl, Option.some.inj hl⟩

def ptrOf : AV → Option Nat
  | .ptr b _ | .eptr b _ _ => some b
  | _ => none
theorem loadA_local {h h' : List AObj} {t : TypeId} {p : AV} (hl : ∀ b, ptrOf p = some b → (h[b]?).map roO = (h'[b]?).map roO) : loadA P h t p = loadA P h' t p := by
  cases p <;> try rfl
  case ptr o off =>
    rcases look_cases (hl o rfl) with ⟨h1, h2⟩ | ⟨ob, ob', h1, h2, h3⟩
    · simp only [loadA, h1, h2]
    · simp only [loadA, h1, h2]
      cases ob <;> cases ob' <;> simp [roO] at h3 <;> first | rfl | (subst h3; rfl) | simp
  case eptr o i f =>
    rcases look_cases (hl o rfl) with ⟨h1, h2⟩ | ⟨ob, ob', h1, h2, h3⟩
    · simp only [loadA, h1, h2]
    · simp only [loadA, h1, h2]
      cases ob <;> cases ob' <;> simp [roO] at h3 <;> first | rfl | (obtain ⟨rfl, rfl, rfl⟩ := h3; rfl) | simp

def objOf : AV → Option Nat
  | .sl b _ _ | .ptr b _ | .eptr b _ _ => some b
  | _ => none
theorem sliceA_local {h h' : List AObj} {t : TypeId} {x : AV} {lo hi mx : Option AV} (hl : ∀ b, objOf x = some b → (h[b]?).map roO = (h'[b]?).map roO) : sliceA P h t x lo hi mx = sliceA P h' t x lo hi mx := by
  cases x <;> cases mx <;> try rfl
  case sl.none o off len =>
    unfold sliceA
    cases hu : P.underlying t with
    | none => rcases look_cases (hl o rfl) with ⟨h1, h2⟩ | ⟨ob, ob', h1, h2, h3⟩ <;> simp [h1, h2]
    | some d =>
      rcases look_cases (hl o rfl) with ⟨h1, h2⟩ | ⟨ob, ob', h1, h2, h3⟩
      · simp [h1, h2]
      · cases d <;> cases ob <;> cases ob' <;> simp [roO] at h3 <;> simp [h1, h2, h3]
theorem indexAddrA_local {h h' : List AObj} {t : TypeId} {x i : AV} (hl : ∀ b, objOf x = some b → (h[b]?).map roO = (h'[b]?).map roO) : indexAddrA P h t x i = indexAddrA P h' t x i := by
  cases i <;> try rfl
  unfold indexAddrA
  cases hu : P.underlying t with
  | none => rfl
  | some d =>
    cases x <;> cases d <;> try rfl
    case sl.slice o off len e =>
      rcases look_cases (hl o rfl) with ⟨h1, h2⟩ | ⟨ob, ob', h1, h2, h3⟩
      · simp [h1, h2]
      · cases ob <;> cases ob' <;> simp [roO] at h3 <;> simp [h1, h2, h3]
    case ptr.array o off n e =>
      rcases look_cases (hl o rfl) with ⟨h1, h2⟩ | ⟨ob, ob', h1, h2, h3⟩
      · simp [h1, h2]
      · cases ob <;> cases ob' <;> simp [roO] at h3 <;> simp [h1, h2]
theorem fieldAddrA_local {h h' : List AObj} {s : TypeId} {x : AV} {f : Nat} (hl : ∀ b, objOf x = some b → (h[b]?).map roO = (h'[b]?).map roO) : fieldAddrA P h s x f = fieldAddrA P h' s x f := by
  unfold fieldAddrA
  cases hu : P.underlying s with
  | none => rfl
  | some d =>
    cases d <;> try rfl
    rename_i fs
    simp only
    cases hf : fs[f]? with
    | none => rfl
    | some fd =>
      cases x <;> try rfl
      case ptr o off =>
        rcases look_cases (hl o rfl) with ⟨h1, h2⟩ | ⟨ob, ob', h1, h2, h3⟩
        · simp [h1, h2]
        · cases ob <;> cases ob' <;> simp [roO] at h3 <;> simp [h1, h2]
      case eptr o i g =>
        rcases look_cases (hl o rfl) with ⟨h1, h2⟩ | ⟨ob, ob', h1, h2, h3⟩
        · simp [h1, h2]
        · cases ob <;> cases ob' <;> simp [roO] at h3 <;> simp [h1, h2]
theorem convA_local {h h' : List AObj} {ix : Nat} {src dst : TypeId} {x : AV} (hl : ∀ b, objOf x = some b → (h[b]?).map roO = (h'[b]?).map roO) : convA P h ix src dst x = convA P h' ix src dst x := by
  unfold convA
  cases hu : P.underlying src with
  | none => cases hv : P.underlying dst <;> rfl
  | some d =>
    cases hv : P.underlying dst with
    | none => cases d <;> rfl
    | some d2 =>
      cases d <;> cases d2 <;> cases x <;> try rfl
      case slice.string.sl e o off len =>
        rcases look_cases (hl o rfl) with ⟨h1, h2⟩ | ⟨ob, ob', h1, h2, h3⟩
        · simp [h1, h2]
        · cases ob <;> cases ob' <;> simp [roO] at h3 <;> try (simp [h1, h2]; done)
          obtain ⟨rfl, rfl, rfl⟩ := h3
          simp only [h1, h2]
          rcases P.underlying e with _ | d3 <;> first | rfl | (cases d3 <;> first | rfl | (rename_i k; cases k <;> rfl))

theorem nwA_local {ρ : Operand → AV} {h h' : List AObj} {ix : Nat} {o : Oper} (hl : ∀ b, readObj ρ o = some b → (h[b]?).map roO = (h'[b]?).map roO) : nwA P ρ h ix o = nwA P ρ h' ix o := by
  unfold nwA
  unfold readObj at hl
  split
  case h_8 t a hop =>
    rw [hop] at hl
    rw [loadA_local fun b hb => hl b ?_]
    simp only
    cases hx : ρ a <;> rw [hx] at hb <;> simp [ptrOf] at hb <;> simp [hb]
  case h_12 src dst x hop =>
    rw [hop] at hl
    refine convA_local fun b hb => hl b ?_
    simp only
    cases hx : ρ x <;> rw [hx] at hb <;> simp [objOf] at hb <;> simp [hb]
  case h_16 t x lo hi mx hop =>
    rw [hop] at hl
    rw [sliceA_local fun b hb => hl b ?_]
    simp only
    cases hx : ρ x <;> rw [hx] at hb <;> simp [objOf] at hb <;> simp [hb]
  case h_17 s x f hop =>
    rw [hop] at hl
    rw [fieldAddrA_local fun b hb => hl b ?_]
    simp only
    cases hx : ρ x <;> rw [hx] at hb <;> simp [objOf] at hb <;> simp [hb]
  case h_19 t x i hop =>
    rw [hop] at hl
    rw [indexAddrA_local fun b hb => hl b ?_]
    simp only
    cases hx : ρ x <;> rw [hx] at hb <;> simp [objOf] at hb <;> simp [hb]
  all_goals rfl

/-- What it reads is there. -/
theorem nwA_reads {ρ : Operand → AV} {h : List AObj} {ix : Nat} {o : Oper} {r : AV × Option AObj} (hn : nwA P ρ h ix o = some r) {b : Nat} (hb : readObj ρ o = some b) : b < h.length := by
  rcases Nat.lt_or_ge b h.length with hlt | hge
  · exact hlt
  · exfalso
    have hnone : h[b]? = none := List.getElem?_eq_none hge
    unfold readObj at hb
    unfold nwA at hn
    split at hb
    · rename_i t a hop
      simp only [hop] at hn
      cases ha : ρ a <;> simp only [ha] at hb <;> first
        | (cases hb; done)
        | (cases hb; simp [ha, loadA, hnone] at hn; done)
    · rename_i t x i hop
      simp only [hop] at hn
      cases ha : ρ x <;> simp only [ha] at hb <;> first
        | (cases hb; done)
        | (cases hb; cases hi : ρ i <;> simp [ha, hi, indexAddrA] at hn <;> rcases hu : P.underlying t with _ | d <;> (first | (simp [hu] at hn; done) | (cases d <;> simp [hu, hnone] at hn)))
    · rename_i t x lo hi mx hop
      simp only [hop] at hn
      cases ha : ρ x <;> simp only [ha] at hb <;> first
        | (cases hb; done)
        | (cases hb; cases hm : mx.map ρ <;> simp [ha, hm, sliceA, hnone] at hn; done)
    · rename_i src dst x hop
      simp only [hop] at hn
      cases ha : ρ x <;> simp only [ha] at hb <;> first
        | (cases hb; done)
        | (cases hb
           rw [ha] at hn
           unfold convA at hn
           split at hn <;> simp_all)
    · rename_i s x f hop
      simp only [hop] at hn
      cases ha : ρ x <;> simp only [ha] at hb <;> first
        | (cases hb; done)
        | (cases hb
           simp only [ha, fieldAddrA] at hn
           cases hu : P.underlying s with
           | none => simp [hu] at hn
           | some d =>
             cases d <;> simp only [hu] at hn <;> try (simp at hn; done)
             rename_i fs
             cases hf : fs[f]? with
             | none => simp [hf] at hn
             | some fd => simp [hf, hnone] at hn)
    · cases hb

theorem nwA_congr {ρ ρ' : Operand → AV} {h : List AObj} {ix : Nat} {o : Oper} (hx : ∀ x ∈ o.op.operands, ρ x = ρ' x) : nwA P ρ h ix o = nwA P ρ' h ix o := by
  obtain ⟨dst, op, type, pos, after, guard⟩ := o
  simp only at hx
  have pairs : ∀ ps : Array (Nat × Operand), (∀ x ∈ ps.toList.map (·.2), ρ x = ρ' x) → (ps.toList.map fun p => (p.1, ρ p.2)) = (ps.toList.map fun p => (p.1, ρ' p.2)) := fun ps hp =>
    List.map_congr_left fun p hm => by rw [hp p.2 (List.mem_map.2 ⟨p, hm, rfl⟩)]
  have lst : ∀ l : Array Operand, (∀ x ∈ l, ρ x = ρ' x) → l.toList.map ρ = l.toList.map ρ' := fun l hp => List.map_congr_left fun x hm => hp x (by simpa using hm)
  cases op <;> simp only [Op.operands] at hx <;> simp only [nwA]
  case build t ps => rw [pairs ps fun x h => hx x (by simpa using h)]
  case buildSlice t n ps => rw [pairs ps fun x h => hx x (by simpa using h)]
  case makeFunc f first caps => rw [lst first fun x h => hx x (by simp [h]), lst caps fun x h => hx x (by simp [h])]
  case slice t x lo hi mx => cases lo <;> cases hi <;> cases mx <;> simp_all
  case call cl =>
    obtain ⟨callee, args, tys⟩ := cl
    have ha : args.toList.map ρ = args.toList.map ρ' := lst args fun x h => hx x (by simp [Call.operands, h])
    cases callee with
    | builtin b =>
      cases b <;> simp only [ha]
      case len =>
        split
        · rename_i x t h1 h2
          rw [hx x (by simp [Call.operands]; have : x ∈ args.toList := by rw [h1]; simp
                       simpa using this)]
        · rfl
    | _ => rfl
  all_goals first | rfl | (simp_all; done)

theorem calleeA_congr {ρ ρ' : Operand → AV} {op : Op} (hx : ∀ x ∈ op.operands, ρ x = ρ' x) : calleeA P ρ op = calleeA P ρ' op := by
  cases op <;> try rfl
  case call cl =>
    obtain ⟨callee, args, tys⟩ := cl
    have ha : args.toList.map ρ = args.toList.map ρ' := List.map_congr_left fun x hm => hx x (by have : x ∈ args := by simpa using hm
                                                                                                 simp [Op.operands, Call.operands, this])
    cases callee with
    | builtin b => rfl
    | value f => simp only [calleeA, ha, hx f (by simp [Op.operands, Call.operands])]
    | invoke r m => simp only [calleeA, ha, hx r (by simp [Op.operands, Call.operands])]
theorem wrA_congr {C : Ctx} {ρ ρ' : Operand → AV} {h : List AObj} {o : Oper} (hx : ∀ x ∈ o.op.operands, ρ x = ρ' x) : wrA C ρ h o = wrA C ρ' h o := by
  obtain ⟨dst, op, type, pos, after, guard⟩ := o
  simp only at hx
  have hc := calleeA_congr (P := C.P) hx
  cases op <;> simp only [wrA] <;> try rw [hc]
  case store t a v => rw [hx a (by simp [Op.operands]), hx v (by simp [Op.operands])]
  case next it s => cases s <;> simp only [hx it (by simp [Op.operands])] <;> first | rfl | rw [hc]
  case call cl =>
    obtain ⟨callee, args, tys⟩ := cl
    cases callee with
    | builtin b =>
      cases b <;> simp only
      split
      · rename_i x y h1
        have e1 : x ∈ args := by have : x ∈ args.toList := by rw [h1]; simp
                                 simpa using this
        have e2 : y ∈ args := by have : y ∈ args.toList := by rw [h1]; simp
                                 simpa using this
        rw [hx x (by simp [Op.operands, Call.operands, e1]), hx y (by simp [Op.operands, Call.operands, e2])]
      · rfl
    | value f => simp only [hc]
    | invoke r m => simp only [hc]
theorem nwA_alive {ρ : Operand → AV} {h : List AObj} {ix : Nat} {o : Oper} {v : AV} {ob : AObj} (hn : nwA P ρ h ix o = some (v, some ob)) : ob ≠ .dead := by
  intro e
  subst e
  have hno : ∀ {u : Option AV}, (u.map fun v => (v, (none : Option AObj))) = some (v, some .dead) → False := fun hu => by
    rw [Option.map_eq_some_iff] at hu
    obtain ⟨_, _, he⟩ := hu
    cases he
  unfold nwA at hn
  split at hn
  case h_3 => split at hn <;> first | (cases hn; done) | (split at hn <;> cases hn)
  case h_4 =>
    rw [Option.bind_eq_some_iff] at hn
    obtain ⟨z, _, hn⟩ := hn
    split at hn <;> cases hn
  case h_5 =>
    rw [Option.map_eq_some_iff] at hn
    obtain ⟨_, _, he⟩ := hn
    cases he
  case h_6 =>
    rw [Option.bind_eq_some_iff] at hn
    obtain ⟨z, _, hn⟩ := hn
    rw [Option.bind_eq_some_iff] at hn
    obtain ⟨z, _, hn⟩ := hn
    rw [Option.map_eq_some_iff] at hn
    obtain ⟨_, _, he⟩ := hn
    cases he
  case h_7 =>
    split at hn <;> try (cases hn; done)
    split at hn <;> try (cases hn; done)
    split at hn <;> try (cases hn; done)
    rw [Option.map_eq_some_iff] at hn
    obtain ⟨_, _, he⟩ := hn
    cases he
  case h_9 => split at hn <;> cases hn
  case h_12 =>
    unfold convA at hn
    split at hn <;> try (cases hn; done)
    all_goals
      split at hn <;> try (cases hn; done)
      all_goals split at hn <;> cases hn
  case h_13 =>
    split at hn <;> try (cases hn; done)
    split at hn <;> cases hn
  case h_15 =>
    unfold makeA at hn
    split at hn <;> try (cases hn; done)
    split at hn <;> try (cases hn; done)
    split at hn <;> try (cases hn; done)
    split at hn <;> cases hn
  case h_22 => split at hn <;> first | (cases hn; done) | exact hno hn
  case h_23 => split at hn <;> cases hn
  case h_24 => split at hn <;> first | (cases hn; done) | exact hno hn
  all_goals first | exact hno hn | (cases hn; done)
end
end Go.Proofs.YthihinlamlamhaaE
