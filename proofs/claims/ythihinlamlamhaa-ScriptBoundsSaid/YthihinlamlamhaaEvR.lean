/- A region in the text's order. -/
import Derived.Test.YthihinlamlamhaaEvQ
namespace Go.Proofs.YthihinlamlamhaaE
open Go

/-- The interpreter's state stands for the frame and the world. -/
def Inv (E0 : En) (st : S) (a : Act) (w : World) : Prop :=
  ∃ ι, Sim ⟨ι, st.h, w, E0.X⟩ ∧ VL ⟨ι, st.h, w, E0.X⟩ st.t a.tmps.toList ∧ Ext E0 ⟨ι, st.h, w, E0.X⟩ ∧ Wd E0.w w ∧ a.defers = []

theorem VR.notbool {E : En} {v : AV} {b : Bool} (h : VR E v (.bool b)) : v = .bool b ∨ v = .gone := by
  cases v <;> simp only [VR] at h <;> first
    | (cases h; exact .inl rfl)
    | exact .inr rfl
    | (cases h; done)
    | (obtain ⟨_, _, h, _⟩ := h; cases h; done)
    | (obtain ⟨_, h, _⟩ := h; cases h; done)
    | (exfalso; split at h <;> first
        | exact h
        | (obtain ⟨_, _, _, h⟩ := h; cases h; done)
        | (obtain ⟨_, _, _, _, h, _⟩ := h; cases h; done)
        | (obtain ⟨_, _, h⟩ := h; cases h; done)
        | (obtain ⟨_, h⟩ := h; cases h; done))

theorem VL.getA {E : En} {t : List AV} {a : Array Value} (h : VL E t a.toList) (d : Nat) : (t[d]? = none ∧ a[d]? = none) ∨ ∃ v c, t[d]? = some v ∧ a[d]? = some c ∧ VR E v c := by
  cases hv : t[d]? with
  | none =>
    left
    refine ⟨rfl, ?_⟩
    have := h.len
    simp at this hv ⊢
    omega
  | some v =>
    obtain ⟨c, hc, hr⟩ := h.get d v hv
    exact .inr ⟨v, c, rfl, by simpa using hc, hr⟩

theorem wanted_ok {E : En} {ops : Array Oper} {t : List AV} {a : Act} {o : Oper} {b : Bool} (ht : VL E t a.tmps.toList) (h : wantedA ops t o = some b) : Region.wanted o (yielded ops a.tmps) = b := by
  unfold wantedA at h
  unfold Region.wanted
  split at h
  · rename_i hg; rw [hg]; cases h; rfl
  · rename_i j want hg
    rw [hg]
    simp only
    unfold yielded
    cases hd : (ops[j]?).bind (·.dst) with
    | none => rw [hd] at h; cases h; rfl
    | some d =>
      rw [hd] at h
      simp only [Option.bind_some]
      simp only at h
      rcases ht.getA d with ⟨h1, h2⟩ | ⟨v, c, h1, h2, hr⟩
      · rw [h1] at h; cases h; rw [h2]; rfl
      · rw [h1] at h; rw [h2]
        cases v with
        | bool x => simp only [VR] at hr; subst hr; cases h; cases x <;> cases want <;> rfl
        | gone => cases h
        | _ =>
          cases h
          cases c with
          | bool x => rcases VR.notbool hr with h | h <;> cases h
          | _ => rfl

theorem put_ok {E : En} {t : List AV} {a : Act} (ht : VL E t a.tmps.toList) (dst : Option Tmp) {v : AV} {cv : Value} (hv : VR E v cv) (h : List AObj) : VL E ((⟨t, h⟩ : S).put dst v h).t (a.put dst cv).tmps.toList := by
  cases dst with
  | none => exact ht
  | some d =>
    show VL E (t.set d v) (a.tmps.setIfInBounds d cv).toList
    rw [Array.toList_setIfInBounds]
    exact ht.set d hv
theorem put_defers (a : Act) (dst : Option Tmp) (v : Value) : (a.put dst v).defers = a.defers := by cases dst <;> rfl
theorem put_h (st : S) (dst : Option Tmp) (v : AV) (h : List AObj) : (st.put dst v h).h = h := by cases dst <;> rfl
theorem put_t (st : S) (dst : Option Tmp) (v : AV) (h : List AObj) : (st.put dst v h).t = ((⟨st.t, h⟩ : S).put dst v h).t := by cases dst <;> rfl

section
variable {C : Ctx} {E0 : En} {Q : Exit → Act → World → Prop}

/-- One operation. -/
theorem op_ok (hP : okProg C.P = true) (hF : SoundF C.P C.F) {o : Oper} {st : S} {a : Act} {w : World} {v : AV} {h' : List AObj} (hi : Inv E0 st a w) (h : opA C (ev st.t) st.h o = some (v, h')) {K : Act → World → Prop}
    (hK : ∀ a' w', Inv E0 (st.put o.dst v h') a' w' → K a' w') : o.wp C.P a w K Q := by
  obtain ⟨ι, s, ht, x, wd, hd⟩ := hi
  unfold opA at h
  split at h
  · refine wr_ok (E := ⟨ι, st.h, w, E0.X⟩) hP hF s ht h fun cv w' ι' af => hK _ _ ⟨ι', ?_⟩
    refine ⟨by rw [put_h]; exact af.sim, ?_, by rw [put_h]; exact x.trans af.ext, wd.trans af.wd, by rw [put_defers]; exact hd⟩
    rw [put_t, put_h]
    exact put_ok (VL.ext af.ext _ _ ht) o.dst af.vr h'
  · rw [Option.map_eq_some_iff] at h
    obtain ⟨⟨u, ob⟩, hn, he⟩ := h
    cases he
    have hdo := nw_ok (P := C.P) (E := ⟨ι, st.h, w, E0.X⟩) s ht hn
    unfold Oper.wp
    cases ob with
    | none =>
      obtain ⟨cv, hr, hv⟩ := hdo
      have hr : (execOp a.eval o).run C.P w = .ok (.value cv) w := hr
      rw [hr, Oper.upon_value]
      refine hK _ _ ⟨ι, ?_⟩
      simp only [Option.toList_none, List.append_nil]
      refine ⟨by rw [put_h]; exact s, ?_, by rw [put_h]; exact x, wd, by rw [put_defers]; exact hd⟩
      rw [put_t, put_h]
      exact put_ok ht o.dst hv st.h
    | some ob =>
      obtain ⟨cv, w', hr, hn⟩ := hdo
      have hr : (execOp a.eval o).run C.P w = .ok (.value cv) w' := hr
      rw [hr, Oper.upon_value]
      have hnone : ι st.h.length = none := by
        cases hc : ι st.h.length with
        | none => rfl
        | some p => exact absurd (s.lt _ p.1 p.2 hc).1 (Nat.lt_irrefl _)
      obtain ⟨c, g1, g2, g3, g4⟩ := new_ok s hn (st.h ++ [ob]) (fun i hi => by
        show _ = st.h[i]?
        rw [List.getElem?_append]
        split
        · rfl
        · rename_i hge
          have hi : i ≠ st.h.length := hi
          rw [List.getElem?_eq_none (l := st.h) (by omega), List.getElem?_eq_none (by simp; omega)]) (by simp) hnone (.inl (by simp))
      refine hK (a.put o.dst cv) w' ⟨upd ι st.h.length (some (w.heap.size, c)), ?_⟩
      simp only [Option.toList_some]
      refine ⟨by rw [put_h]; exact g1, ?_, by rw [put_h]; exact x.trans g2, wd.trans g3, by rw [put_defers]; exact hd⟩
      rw [put_t, put_h]
      exact put_ok (VL.ext g2 _ _ ht) o.dst g4 _

theorem skip_ok {st : S} {a : Act} {w : World} (hi : Inv E0 st a w) (dst : Option Tmp) : Inv E0 (st.put dst .undef st.h) (a.put dst undef) w := by
  obtain ⟨ι, s, ht, x, wd, hd⟩ := hi
  refine ⟨ι, by rw [put_h]; exact s, ?_, by rw [put_h]; exact x, wd, by rw [put_defers]; exact hd⟩
  rw [put_t, put_h]
  exact put_ok ht dst (by simp [AV.undef, undef, VR, VL]) st.h

theorem step_ok (hP : okProg C.P = true) (hF : SoundF C.P C.F) {ops : Array Oper} {i : Nat} {st st' : S} {a : Act} {w : World} (hi : Inv E0 st a w) (h : stepA C ops i st = some st') {K : Act → World → Prop}
    (hK : ∀ a' w', Inv E0 st' a' w' → K a' w') : wpOp C.P ops Q i K a w := by
  unfold stepA at h
  unfold wpOp
  split at h
  · rename_i ho; rw [ho]; cases h; exact hK _ _ hi
  · rename_i o ho
    rw [ho]
    simp only
    split at h
    · rename_i b hb
      have hw : Region.wanted o (yielded ops a.tmps) = b := by
        obtain ⟨ι, _, ht, _⟩ := hi
        exact wanted_ok ht hb
      rw [hw]
      split at h
      · rename_i hbt
        rw [Option.map_eq_some_iff] at h
        obtain ⟨⟨v, h'⟩, h1, rfl⟩ := h
        rw [hbt, if_pos rfl]
        exact .inl (op_ok hP hF hi h1 hK)
      · rename_i hbf
        cases h
        rw [if_neg hbf]
        exact hK _ _ (skip_ok hi o.dst)
    · cases h

theorem runOps_ok (hP : okProg C.P = true) (hF : SoundF C.P C.F) {ops : Array Oper} : ∀ (l : List Nat) {st st' : S} {a : Act} {w : World}, Inv E0 st a w → runOps C ops l st = some st' →
    (∀ a' w', Inv E0 st' a' w' → Q .normal a' w') → wpOps C.P ops Q l a w
  | [], st, st', a, w, hi, h, hQ => by simp [runOps] at h; subst h; exact hQ _ _ hi
  | i :: l, st, st', a, w, hi, h, hQ => by
    simp only [runOps] at h
    rw [Option.bind_eq_some_iff] at h
    obtain ⟨st1, h1, h2⟩ := h
    rw [wpOps_cons]
    exact step_ok hP hF hi h1 fun a' w' hi' => runOps_ok hP hF l hi' h2 hQ
end
end Go.Proofs.YthihinlamlamhaaE
