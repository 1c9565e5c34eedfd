/- One operation; a region in the text's order. -/
import Derived.Test.YthihinlamlamhaaEvP
namespace Go.Proofs.YthihinlamlamhaaE
open Go

/-- What is asked of the program. -/
def okProg (P : Program) : Bool := P.follows .mixedOrders && P.funcs.all fun fn => fn.body.isNone || !(fn.name == "runtime.NumGoroutine")

theorem run_callFunc {P : Program} (hP : okProg P = true) {g : FuncId} (hb : bodied P g = true) (args : Array Value) (w : World) : (callFunc g args).run P w = .ok (.enter g args) w := by
  unfold bodied at hb
  unfold okProg at hP
  rw [Bool.and_eq_true, Array.all_eq_true] at hP
  cases hg : P.funcs[g]? with
  | none => simp [hg] at hb
  | some fn =>
    simp only [hg] at hb
    obtain ⟨hlt, he⟩ := Array.getElem?_eq_some_iff.1 hg
    have h2 := hP.2 g hlt
    rw [he] at h2
    have hn : fn.body.isNone = false := by cases hf : fn.body <;> simp [hf] at hb ⊢
    rw [hn, Bool.false_or] at h2
    have h3 : fn.name ≠ "runtime.NumGoroutine" := by simpa using h2
    have h4 : fn.body ≠ none := fun e => by simp [e] at hb
    simp [callFunc, hg, h3, h4]

section
variable {C : Ctx} {E : En}

structure Aft (C : Ctx) (E : En) (t : List AV) (o : Oper) (v : AV) (h' : List AObj) (cv : Value) (w' : World) (ι' : Nat → Option (Nat × Nat)) : Prop where
  sim : Sim ⟨ι', h', w', E.X⟩
  ext : Ext E ⟨ι', h', w', E.X⟩
  wd : Wd E.w w'
  vr : VR ⟨ι', h', w', E.X⟩ v cv
  unt : ∀ i ob, E.ι i = none → E.h[i]? = some ob → ob ≠ .dead → ι' i = none ∧ h'[i]? = some ob
  tch : ∀ i, i ∉ touched C (ev t) E.h o → i < E.h.length → (h'[i]?).map roO = (E.h[i]?).map roO

theorem storeA_out {P : Program} {h h' : List AObj} {t : TypeId} {p v : AV} (hs : storeA P h t p v = some h') : ∃ o ob ob', (p = .ptr o 0 ∨ (∃ off, p = .ptr o off) ∨ ∃ i f, p = .eptr o i f) ∧ h[o]? = some ob ∧ ob ≠ .dead ∧ h' = h.set o ob' := by
  unfold storeA at hs
  split at hs
  · split at hs
    · split at hs
      · split at hs
        · rename_i ho
          split at hs
          · cases hs; exact ⟨_, _, _, .inr (.inl ⟨_, rfl⟩), ho, by simp, rfl⟩
          · cases hs
        · cases hs
      · split at hs
        · rename_i ho
          split at hs
          · cases hs; exact ⟨_, _, _, .inr (.inr ⟨_, _, rfl⟩), ho, by simp, rfl⟩
          · cases hs
        · cases hs
      · cases hs
    · cases hs
  · cases hs

theorem wr_ok (hP : okProg C.P = true) (hF : SoundF C.P C.F) {t : List AV} {a : Act} {o : Oper} {v : AV} {h' : List AObj} (s : Sim E) (ht : VL E t a.tmps.toList) (h : wrA C (ev t) E.h o = some (v, h'))
    {K : Act → World → Prop} {Q : Exit → Act → World → Prop} (hK : ∀ cv w' ι', Aft C E t o v h' cv w' ι' → K (a.put o.dst cv) w') : o.wp C.P a E.w K Q := by
  have hv := fun x => ev_ok ht x
  unfold Oper.wp
  have hcall : ∀ g args cargs, bodied C.P g = true → callA C.F E.h g args = some (v, h') → VL E args cargs.toList → (execOp a.eval o).run C.P E.w = (callFunc g cargs).run C.P E.w → touched C (ev t) E.h o = sig E.h args → o.upon C.P a K Q ((execOp a.eval o).run C.P E.w) := by
    intro g args cargs hb hc hargs hrun htch
    rw [hrun, run_callFunc hP hb, Oper.upon_enter]
    refine (call_ok hF s hargs hc).mono ?_
    rintro e w' ⟨cv, ι', rfl, h1, h2, h3, h4, h5, h6⟩
    exact hK cv w' ι' ⟨h1, h2, h3, h4, h5, by rw [htch]; exact h6⟩
  unfold wrA at h
  split at h
  · rename_i ty p x hop
    rw [Option.map_eq_some_iff] at h
    obtain ⟨h2, hs, he⟩ := h
    cases he
    obtain ⟨w', g1, g2, g3, g4⟩ := store_ok (P := C.P) s (hv p) (hv x) hs
    have hr : (execOp a.eval o).run C.P E.w = .ok .skip w' := by simp [execOp, hop, g1]
    rw [hr, Oper.upon_skip]
    obtain ⟨q, ob, ob', hp, ho, hd, rfl⟩ := storeA_out hs
    have hq : touched C (ev t) E.h o = [q] := by
      unfold touched
      rw [hop]
      rcases hp with hp | ⟨_, hp⟩ | ⟨_, _, hp⟩ <;> simp [hp]
    refine hK undef w' E.ι ⟨g2, g3, g4, by simp [AV.undef, undef, VR, VL], fun i obi hi hoi hdi => ⟨hi, ?_⟩, fun i hi hil => ?_⟩
    · have hne : i ≠ q := fun e => by
        subst e
        have hpr := hv p
        rcases VR.refs _ _ hpr i (by rcases hp with hp | ⟨_, hp⟩ | ⟨_, _, hp⟩ <;> simp [hp, refsV]) with ⟨z, hz⟩ | hz
        · rw [hi] at hz; cases hz
        · rw [hoi] at hz; exact hdi (Option.some.inj hz)
      rw [List.getElem?_set, if_neg (Ne.symm hne)]; exact hoi
    · rw [hq] at hi
      rw [List.getElem?_set, if_neg (fun e => hi (by simp [e]))]
  · rename_i it hop
    have hr2 := next_ok (P := C.P) (ty := o.type) s (hv it) h
    obtain ⟨cv, w', g1, g2, g3, g4, g5⟩ := hr2
    have hr : (execOp a.eval o).run C.P E.w = .ok (.value cv) w' := by simp [execOp, hop, g1]
    rw [hr, Oper.upon_value]
    have hshape : ∃ q ob, ev t it = .ptr q 0 ∧ E.h[q]? = some ob ∧ ob ≠ .dead ∧ ∀ i, i ≠ q → h'[i]? = E.h[i]? := by
      unfold nextA at h
      split at h
      · rename_i q hq
        split at h
        · rename_i s0 pos ho
          split at h
          · cases h
            exact ⟨q, _, hq, ho, by simp, fun i hi => by rw [List.getElem?_set, if_neg (Ne.symm hi)]⟩
          · cases h
            exact ⟨q, _, hq, ho, by simp, fun i _ => rfl⟩
        · cases h
      · cases h
    obtain ⟨q, ob, hq, ho, hd, hout⟩ := hshape
    have htc : touched C (ev t) E.h o = [q] := by unfold touched; rw [hop]; simp [hq]
    refine hK cv w' E.ι ⟨g2, g3, g4, g5, fun i obi hi hoi hdi => ⟨hi, ?_⟩, fun i hi hil => ?_⟩
    · have hne : i ≠ q := fun e => by
        subst e
        rcases VR.refs _ _ (hv it) i (by simp [hq, refsV]) with ⟨z, hz⟩ | hz
        · rw [hi] at hz; cases hz
        · rw [hoi] at hz; exact hdi (Option.some.inj hz)
      rw [hout i hne]; exact hoi
    · rw [htc] at hi
      rw [hout i (fun e => hi (by simp [e]))]
  · rename_i args tys hop
    split at h
    · rename_i x y hl
      have e1 : args = #[x, y] := by apply Array.toList_inj.1; simpa using hl
      obtain ⟨cv, w', ι', g1, g2, g3, g4, g5, g6⟩ := append_ok (P := C.P) (ty := o.type) s (hv x) (hv y) h
      have hr : (execOp a.eval o).run C.P E.w = .ok (.value cv) w' := by
        simp only [execOp, hop, resolve, pure_bind, invoke, builtin, e1]
        have g1' : (Builtin.append_ tys o.type #[a.eval x, a.eval y]).run C.P E.w = .ok cv w' := by simpa using g1
        simp [g1']
      rw [hr, Oper.upon_value]
      refine hK cv w' ι' ⟨g2, g3, g4, g5, fun i ob hi ho hd => ?_, fun i hi hil => ?_⟩
      · have := g6 i hi (List.getElem?_eq_some_iff.1 ho).1
        exact ⟨this.1, this.2.trans ho⟩
      · have htc : touched C (ev t) E.h o = (match ev t x with | .sl b _ _ => [b] | _ => []) := by unfold touched; rw [hop]; simp only [hl]; cases ev t x <;> rfl
        rw [htc] at hi
        unfold appendA at h
        split at h
        · split at h
          · split at h
            · cases h
            · split at h
              · split at h
                · split at h
                  · split at h
                    · split at h
                      · cases h; rfl
                      · split at h
                        · cases h; rw [List.getElem?_append, if_pos hil]
                        · cases h
                    · rename_i q len hq
                      split at h
                      · split at h
                        · cases h
                          simp only [hq] at hi
                          rw [List.getElem?_append, if_pos (by simpa using hil), List.getElem?_set, if_neg (fun e => hi (by simp [e]))]
                        · cases h
                      · cases h
                    · cases h
                  · cases h
                · cases h
              · cases h
          · cases h
        · cases h
    · cases h
  · cases h
  · rename_i hn1 hn2 hn3 hn4
    split at h
    · rename_i g args hca
      split at h
      · rename_i hb
        have htc : touched C (ev t) E.h o = sig E.h args := by
          unfold touched
          unfold calleeA at hca
          split at hca
          · rename_i f as tys hop
            simp only [hop]
            unfold calleeA
            simp only
            rw [hca]
          · rename_i r name as tys hop
            simp only [hop]
            unfold calleeA
            simp only
            rw [hca]
          · cases hca
        unfold calleeA at hca
        split at hca
        · rename_i f as tys hop
          split at hca
          · rename_i g' first caps hf
            cases hca
            have hfv := hv f
            rw [hf] at hfv
            simp only [VR] at hfv
            obtain ⟨p, q, hev, hp, hq⟩ := hfv
            refine hcall g _ (p ++ as.map a.eval ++ q) hb h (by simp only [Array.toList_append, Array.toList_map]; exact (hp.app (evs_ok ht as.toList)).app hq) ?_ htc
            simp only [execOp, hop, resolve, hev, Deferred.ofValue, pure_bind, invoke]
          · cases hca
        · rename_i r name as tys hop
          rw [Option.map_eq_some_iff] at hca
          obtain ⟨⟨f, rv⟩, htg, he⟩ := hca
          cases he
          have hrv := hv r
          unfold target at htg
          split at htg
          · rename_i ty u hr
            rw [hr] at hrv
            simp only [VR] at hrv
            obtain ⟨cu, hev, hu⟩ := hrv
            split at htg
            · rename_i m hm
              rw [Option.bind_eq_some_iff] at hm
              obtain ⟨ti, hti, hfind⟩ := hm
              split at htg
              · rename_i hpath
                have hpath' : m.path.toList = [] := by simpa [Array.isEmpty] using hpath
                obtain ⟨fuel, hfuel⟩ : ∃ n, C.P.types.size + Made.depth = n + 1 := ⟨C.P.types.size + (Made.depth - 1), by unfold Made.depth; omega⟩
                have hmeth : ∀ fn, f = fn → (method (C.P.types.size + Made.depth) ty cu name).run C.P E.w = .ok (fn, cu) E.w ∧ rv = u := by
                  rintro fn rfl
                  rw [hfuel]
                  simp only [method, Sem.run_bind, typeInfo, run_program, Result.andThen_ok, hti, Sem.run_pure, hfind, hpath', follow]
                  split at htg
                  · rename_i f' e' hfn hun
                    cases htg
                    simp [hfn, receiverAt, run_underlying hun, Place.get]
                  · cases htg
                  · rename_i f' d hnp hfn hun
                    cases htg
                    have : ∀ q, d ≠ .pointer q := hnp
                    cases d <;> first | exact absurd rfl (this _) | simp [hfn, receiverAt, run_underlying hun, Place.get]
                  · cases htg
                obtain ⟨hm1, hm2⟩ := hmeth _ rfl
                refine hcall _ _ (#[cu] ++ as.map a.eval) hb h (by rw [hm2]; simp only [Array.toList_append, Array.toList_map]; simp only [List.cons_append, List.nil_append, VL]; exact ⟨hu, evs_ok ht as.toList⟩) ?_ htc
                simp only [execOp, hop, resolve, hev, pure_bind, invoke]
                have h0 : (#[Value.iface ty cu] ++ as.map a.eval)[0]? = some (.iface ty cu) := by rw [Array.getElem?_append_left (by show 0 < 1; omega)]; rfl
                have h1 : (#[Value.iface ty cu] ++ as.map a.eval).extract 1 (#[Value.iface ty cu] ++ as.map a.eval).size = as.map a.eval := by
                  apply Array.toList_inj.1
                  simp
                  exact List.take_of_length_le (by simp)
                simp only [h0, h1, callMethod, Sem.run_bind, run_program, Result.andThen_ok, hm1]
              · cases htg
            · cases htg
          · cases htg
        · cases hca
      · cases h
    · cases h
end
end Go.Proofs.YthihinlamlamhaaE
