/- Slices frozen; calls. -/
import Derived.Test.YthihinlamlamhaaEvN
namespace Go.Proofs.YthihinlamlamhaaE
open Go

theorem roO_roO (ob : AObj) : roO (roO ob) = roO ob := by cases ob <;> rfl
theorem markRo_len : ∀ (l : List Nat) (h : List AObj), (markRo h l).length = h.length
  | [], _ => rfl
  | i :: l, h => by
    simp only [markRo]
    rw [markRo_len l]
    unfold mark1
    split <;> simp
theorem markRo_get : ∀ (l : List Nat) (h : List AObj) (j : Nat), (markRo h l)[j]? = if j ∈ l then (h[j]?).map roO else h[j]?
  | [], _, _ => by simp [markRo]
  | i :: l, h, j => by
    simp only [markRo]
    rw [markRo_get l]
    have hg : (mark1 h i)[j]? = if j = i then (h[j]?).map roO else h[j]? := by
      unfold mark1
      by_cases hij : j = i
      · subst hij
        rw [if_pos rfl]
        cases hj : h[j]? with
        | none => simpa using hj
        | some ob =>
          have hlt := (List.getElem?_eq_some_iff.1 hj).1
          simp [hlt]
      · rw [if_neg hij]
        cases hi : h[i]? with
        | none => rfl
        | some ob => simp [Ne.symm hij]
    rw [hg]
    by_cases hij : j = i
    · subst hij
      simp only [if_true, List.mem_cons, true_or]
      split
      · rw [Option.map_map]; congr 1; funext ob; exact roO_roO ob
      · rfl
    · simp only [hij, if_false, List.mem_cons, false_or]

theorem roO_cls (ob : AObj) : (roO ob).cls = ob.cls := by cases ob <;> rfl
theorem roO_mut {ob : AObj} (h : ob.mut = false) : (roO ob).mut = false := by cases ob <;> first | exact h | rfl
theorem roO_len {ob : AObj} {md md' : Nat} {e e' : TypeId} {sh sh' : List K} {rs rs' : List (List AV)} (h : ob = .arr md e sh rs) (k : roO ob = .arr md' e' sh' rs') : rs.length = rs'.length := by
  subst h
  simp only [roO, AObj.arr.injEq] at k
  rw [k.2.2.2]

def mkE (E : En) (l : List Nat) : En := ⟨E.ι, markRo E.h l, E.w, E.X⟩
theorem mkE_get (E : En) (l : List Nat) {i : Nat} {ob : AObj} (h : (mkE E l).h[i]? = some ob) : ∃ ob0, E.h[i]? = some ob0 ∧ ob = if i ∈ l then roO ob0 else ob0 := by
  have h : (markRo E.h l)[i]? = some ob := h
  rw [markRo_get] at h
  split at h
  · rename_i hi
    rw [Option.map_eq_some_iff] at h
    obtain ⟨ob0, h1, h2⟩ := h
    exact ⟨ob0, h1, by rw [if_pos hi]; exact h2.symm⟩
  · rename_i hi
    exact ⟨ob, h, by rw [if_neg hi]⟩
theorem mark_ok {E : En} (s : Sim E) (l : List Nat) : Sim (mkE E l) ∧ Ext E (mkE E l) := by
  have x : Ext E (mkE E l) := by
    refine ⟨fun i ob hi => ?_, fun b hb => ⟨⟨hb.1, fun i c ob h1 h2 => ?_⟩, rfl⟩, fun j b c h => .inr ⟨j, c, h⟩, Nat.le_refl _, rfl⟩
    · refine ⟨if i ∈ l then roO ob else ob, ?_, .inr ⟨?_, fun p hp => hp, fun _ _ _ _ _ _ _ _ e1 e2 => ?_⟩⟩
      · show (markRo E.h l)[i]? = _
        rw [markRo_get, hi]
        split <;> rfl
      · split
        · exact (roO_cls ob).symm
        · rfl
      · split at e2
        · exact roO_len e1 e2
        · rw [e1] at e2; cases e2; rfl
    · obtain ⟨ob0, h3, rfl⟩ := mkE_get E l h2
      have := hb.2 i c ob0 h1 h3
      split
      · exact roO_mut this
      · exact this
  refine ⟨⟨s.inj, fun i b c hi => ?_, fun i b c ob hi ho => ?_, s.nx, s.xlt⟩, x⟩
  · have := s.lt i b c hi
    exact ⟨by show i < (markRo E.h l).length; rw [markRo_len]; exact this.1, this.2⟩
  · obtain ⟨ob0, h1, rfl⟩ := mkE_get E l ho
    have hor := OR.ext x rfl ob0 (s.obj i b c ob0 hi h1)
    split
    · cases ob0 with
      | arr md e sh rs =>
        obtain ⟨h0, a, lo, hi', k1, k2, k3, k4, k5, k6, _, k8⟩ := hor
        exact ⟨h0, a, lo, hi', k1, k2, k3, k4, k5, k6, fun h => (by cases h), k8⟩
      | _ => exact hor
    · exact hor

theorem rowsPure_row {sh : List K} {rs : List (List AV)} (h : rowsPure sh rs = true) : ∀ r ∈ rs, pureR sh r = true := by
  intro r hr
  unfold rowsPure at h
  unfold pureR
  rw [Bool.or_eq_true] at h ⊢
  rcases h with h | h
  · exact .inl h
  · rw [List.all_eq_true] at h; exact .inr (h r hr)
mutual
theorem fr_ok {E : En} (s : Sim E) {l : List Nat} : ∀ (v : AV) (cv : Value), VR E v cv → (∀ o ∈ slsV v, o ∈ l) → VR (mkE E l) (frV E.h v) cv
  | .int _ _, _, h, _ | .bool _, _, h, _ | .str _, _, h, _ | .nilp, _, h, _ | .nils, _, h, _ | .nilf, _, h, _ | .nili, _, h, _ => by simpa only [VR, frV] using h
  | .gone, _, _, _ => by simp only [VR, frV]
  | .ptr o off, cv, h, _ => by simp only [frV]; exact VR.ext (mark_ok s l).2 _ _ h
  | .eptr o i g, cv, h, _ => by simp only [frV]; exact VR.ext (mark_ok s l).2 _ _ h
  | .rptr sh cs g, cv, h, _ => by simp only [frV]; exact VR.ext (mark_ok s l).2 _ _ h
  | .row nl sh rs, cv, h, _ => by simp only [frV]; exact VR.ext (mark_ok s l).2 _ _ h
  | .sl o off len, cv, h, hl => by
    have hx := VR.ext (mark_ok s l).2 _ _ h
    simp only [frV]
    split
    · rename_i md e sh rs ho
      split
      · rename_i hc
        rw [Bool.and_eq_true] at hc
        obtain ⟨hp, hol⟩ := hc
        have hol : off + len ≤ rs.length := by simpa using hol
        simp only [VR, ho] at h
        obtain ⟨b, c, cap, hι, rfl, hlc, hoc, _⟩ := h
        obtain ⟨h0, a, lo, hi, k1, k2, k3, k4, k5, k6, k7, k8⟩ := OR.ext (mark_ok s l).2 rfl _ (s.obj o b c _ hι ho)
        have hlen : ((rs.drop off).take len).length = len := by simp; omega
        simp only [VR]
        refine ⟨_, cap, by rw [hlen], by rw [hlen]; exact hlc, by omega, fun h => (by cases h), fun _ => (by simp), ?_⟩
        refine .inr ⟨h0, b, off * sh.length, rfl, ⟨⟨(s.lt o b c hι).2, fun i c' ob h1 h2 => ?_⟩, ?_⟩, fun r hr => k5 r (List.mem_of_mem_drop (List.mem_of_mem_take hr)), fun r hr => rowsPure_row hp r (List.mem_of_mem_drop (List.mem_of_mem_take hr)), ?_⟩
        · have : i = o := s.inj i o b c' c h1 hι
          subst this
          obtain ⟨ob0, h3, rfl⟩ := mkE_get E l h2
          rw [ho] at h3; cases h3
          rw [if_pos (hl i (by simp [slsV]))]
          rfl
        · exact s.nx o b c hι
        · have h5 := (k6.drop off).take len
          rw [Nat.zero_add] at h5
          exact h5
      · exact hx
    · exact hx
  | .fn f a b, cv, h, hl => by
    simp only [VR, frV] at h ⊢
    obtain ⟨p, q, rfl, h1, h2⟩ := h
    exact ⟨p, q, rfl, frL_ok s a _ h1 (fun o ho => hl o (by simp [slsV, ho])), frL_ok s b _ h2 (fun o ho => hl o (by simp [slsV, ho]))⟩
  | .iface t v, cv, h, hl => by
    simp only [VR, frV] at h ⊢
    obtain ⟨u, rfl, h1⟩ := h
    exact ⟨u, rfl, fr_ok s v u h1 (fun o ho => hl o (by simpa [slsV] using ho))⟩
  | .agg cs, cv, h, hl => by
    simp only [VR, frV] at h ⊢
    obtain ⟨a, rfl, h1, h2⟩ := h
    exact ⟨a, rfl, frL_ok s cs _ h1 (fun o ho => hl o (by simpa [slsV] using ho)), h2⟩
  | .tup cs, cv, h, hl => by
    simp only [VR, frV] at h ⊢
    obtain ⟨a, rfl, h1⟩ := h
    exact ⟨a, rfl, frL_ok s cs _ h1 (fun o ho => hl o (by simpa [slsV] using ho))⟩
theorem frL_ok {E : En} (s : Sim E) {l : List Nat} : ∀ (vs : List AV) (cs : List Value), VL E vs cs → (∀ o ∈ slsL vs, o ∈ l) → VL (mkE E l) (frL E.h vs) cs
  | [], [], _, _ => by simp only [VL, frL]
  | [], _ :: _, h, _ => by simp [VL] at h
  | _ :: _, [], h, _ => by simp [VL] at h
  | v :: vs, c :: cs, h, hl => by
    simp only [VL, frL] at h ⊢
    exact ⟨fr_ok s v c h.1 (fun o ho => hl o (by simp [slsL, ho])), frL_ok s vs cs h.2 (fun o ho => hl o (by simp [slsL, ho]))⟩
end
end Go.Proofs.YthihinlamlamhaaE
