/- Objects renumbered, slices frozen. -/
import Derived.Test.YthihinlamlamhaaEvM
namespace Go.Proofs.YthihinlamlamhaaE
open Go

theorem idx_get : ∀ {σ : List Nat} {o j : Nat}, idx o σ = some j → σ[j]? = some o
  | [], _, _, h => by simp [idx] at h
  | x :: l, o, j, h => by
    simp only [idx] at h
    split at h
    · rename_i e; cases h; simp [e]
    · rw [Option.map_eq_some_iff] at h
      obtain ⟨k, hk, rfl⟩ := h
      simpa using idx_get hk
theorem idx_none : ∀ {σ : List Nat} {o : Nat}, idx o σ = none → o ∉ σ
  | [], _, _ => by simp
  | x :: l, o, h => by
    simp only [idx] at h
    split at h
    · cases h
    · rename_i e
      rw [Option.map_eq_none_iff] at h
      have := idx_none h
      simp only [List.mem_cons, not_or]
      exact ⟨fun e' => e e'.symm, this⟩
theorem idx_of : ∀ {σ : List Nat} {o j : Nat}, σ.Nodup → σ[j]? = some o → idx o σ = some j
  | [], _, _, _, h => by simp at h
  | x :: l, o, j, hn, h => by
    rw [List.nodup_cons] at hn
    simp only [idx]
    cases j with
    | zero => simp at h; rw [if_pos h]
    | succ j =>
      simp at h
      rw [if_neg (fun e => hn.1 (by rw [e]; exact List.mem_of_getElem? h)), idx_of hn.2 h]
      rfl

theorem refsL_nil : ∀ {l : List AV}, (∀ v ∈ l, refsV v = []) → refsL l = []
  | [], _ => rfl
  | v :: l, h => by simp only [refsL]; rw [h v (by simp), refsL_nil fun u hu => h u (by simp [hu])]; rfl
theorem refsL_cons {v : AV} {l : List AV} (h : refsL (v :: l) = []) : refsV v = [] ∧ refsL l = [] := by
  simpa [refsL] using h
theorem typed_refs {k : K} {v : AV} (h : kOk k v = true) (ht : k.typed = true) : refsV v = [] := by
  cases k <;> simp [K.typed] at ht <;> cases v <;> simp [kOk] at h <;> rfl
theorem row_refs {sh : List K} {r : List AV} (h : rowOk sh r) (hp : pureR sh r = true) : refsL r = [] := by
  unfold pureR at hp
  rw [Bool.or_eq_true] at hp
  rcases hp with hp | hp
  · rw [List.all_eq_true] at hp
    refine refsL_nil fun v hv => ?_
    obtain ⟨j, hj⟩ := List.getElem?_of_mem hv
    have hlt : j < sh.length := by rw [← h.1]; exact (List.getElem?_eq_some_iff.1 hj).1
    have hk : sh[j]? = some sh[j] := List.getElem?_eq_getElem hlt
    exact typed_refs (h.k hk hj) (hp _ (List.getElem_mem hlt))
  · simpa using hp

mutual
theorem VR.pure {E E' : En} (x : ∀ b, E.still b → E'.still b ∧ E'.w.heap[b]? = E.w.heap[b]?) : ∀ (v : AV) (cv : Value), refsV v = [] → VR E v cv → VR E' v cv
  | .int _ _, _, _, h | .bool _, _, _, h | .str _, _, _, h | .nilp, _, _, h | .nils, _, _, h | .nilf, _, _, h | .nili, _, _, h => by simpa only [VR] using h
  | .gone, _, _, _ => by simp only [VR]
  | .ptr o off, _, hr, _ => by simp [refsV] at hr
  | .eptr o i f, _, hr, _ => by simp [refsV] at hr
  | .sl o off len, _, hr, _ => by simp [refsV] at hr
  | .rptr sh cs f, cv, _, h => by
    simp only [VR] at h ⊢
    obtain ⟨b, off, rfl, hs, hk, hp, hc⟩ := h
    exact ⟨b, off, rfl, (x b hs).1, hk, hp, CR.pure x (x b hs).2 cs off (row_refs hk hp) hc⟩
  | .row nl sh rs, cv, _, h => by
    simp only [VR] at h ⊢
    obtain ⟨a, cap, rfl, h1, h2, h4, h5, h3⟩ := h
    refine ⟨a, cap, rfl, h1, h2, h4, h5, ?_⟩
    rcases h3 with h3 | ⟨h0, b, off, rfl, hs, hk, hp, hr⟩
    · exact .inl h3
    · exact .inr ⟨h0, b, off, rfl, (x b hs).1, hk, hp, RR.pure x (x b hs).2 rs off (fun r hr' => row_refs (hk r hr') (hp r hr')) hr⟩
  | .fn f a b, cv, hr, h => by
    simp only [VR] at h ⊢
    simp only [refsV, List.append_eq_nil_iff] at hr
    obtain ⟨p, q, rfl, h1, h2⟩ := h
    exact ⟨p, q, rfl, VL.pure x a _ hr.1 h1, VL.pure x b _ hr.2 h2⟩
  | .iface t v, cv, hr, h => by
    simp only [VR] at h ⊢
    simp only [refsV] at hr
    obtain ⟨u, rfl, h1⟩ := h
    exact ⟨u, rfl, VR.pure x v u hr h1⟩
  | .agg cs, cv, hr, h => by
    simp only [VR] at h ⊢
    simp only [refsV] at hr
    obtain ⟨a, rfl, h1, h2⟩ := h
    exact ⟨a, rfl, VL.pure x cs _ hr h1, h2⟩
  | .tup cs, cv, hr, h => by
    simp only [VR] at h ⊢
    simp only [refsV] at hr
    obtain ⟨a, rfl, h1⟩ := h
    exact ⟨a, rfl, VL.pure x cs _ hr h1⟩
theorem VL.pure {E E' : En} (x : ∀ b, E.still b → E'.still b ∧ E'.w.heap[b]? = E.w.heap[b]?) : ∀ (vs : List AV) (cs : List Value), refsL vs = [] → VL E vs cs → VL E' vs cs
  | [], [], _, _ => by simp only [VL]
  | [], _ :: _, _, h => by simp [VL] at h
  | _ :: _, [], _, h => by simp [VL] at h
  | v :: vs, c :: cs, hr, h => by
    simp only [VL] at h ⊢
    exact ⟨VR.pure x v c (refsL_cons hr).1 h.1, VL.pure x vs cs (refsL_cons hr).2 h.2⟩
theorem CR.pure {E E' : En} (x : ∀ b, E.still b → E'.still b ∧ E'.w.heap[b]? = E.w.heap[b]?) {b : Nat} (hb : E'.w.heap[b]? = E.w.heap[b]?) : ∀ (cs : List AV) (off : Nat), refsL cs = [] → CR E b off cs → CR E' b off cs
  | [], _, _, _ => by simp only [CR]
  | c :: cs, off, hr, h => by
    simp only [CR] at h ⊢
    obtain ⟨⟨cv, h1, h2, h3⟩, h4⟩ := h
    exact ⟨⟨cv, by rw [cell_eq hb]; exact h1, h2, VR.pure x c cv (refsL_cons hr).1 h3⟩, CR.pure x hb cs (off + 1) (refsL_cons hr).2 h4⟩
theorem RR.pure {E E' : En} (x : ∀ b, E.still b → E'.still b ∧ E'.w.heap[b]? = E.w.heap[b]?) {b n : Nat} (hb : E'.w.heap[b]? = E.w.heap[b]?) : ∀ (rs : List (List AV)) (off : Nat), (∀ r ∈ rs, refsL r = []) → RR E b n off rs → RR E' b n off rs
  | [], _, _, _ => by simp only [RR]
  | r :: rs, off, hr, h => by
    simp only [RR] at h ⊢
    exact ⟨CR.pure x hb r off (hr r (by simp)) h.1, RR.pure x hb rs (off + n) (fun r' hr' => hr r' (by simp [hr'])) h.2⟩
end

/-- The objects of E stand in E' under other numbers. -/
structure Mp (f : Nat → Option Nat) (E E' : En) : Prop where
  map : ∀ o j ob, f o = some j → E.h[o]? = some ob → E'.h[j]? = some (mapO f ob) ∧ (∀ p, E.ι o = some p → E'.ι j = some p)
  st : ∀ b, E.still b → E'.still b ∧ E'.w.heap[b]? = E.w.heap[b]?

mutual
theorem VR.map {f : Nat → Option Nat} {E E' : En} (m : Mp f E E') : ∀ (v : AV) (cv : Value), VR E v cv → VR E' (mapV f v) cv
  | .int _ _, _, h | .bool _, _, h | .str _, _, h | .nilp, _, h | .nils, _, h | .nilf, _, h | .nili, _, h => by simpa only [VR, mapV] using h
  | .gone, _, _ => by simp only [VR, mapV]
  | .ptr o off, cv, h => by
    simp only [mapV]
    cases hf : f o with
    | none => simp only [VR]
    | some j =>
      simp only [VR] at h ⊢
      cases ho : E.h[o]? with
      | none => simp [ho] at h
      | some ob =>
        obtain ⟨h1, h2⟩ := m.map o j ob hf ho
        rw [h1]
        cases ob <;> simp only [ho] at h <;> simp only [mapO]
        · obtain ⟨b, c, hι, rfl⟩ := h; exact ⟨b, c, h2 _ hι, rfl⟩
        · obtain ⟨b, c, hι, rfl⟩ := h; exact ⟨b, c, h2 _ hι, rfl⟩
        · exact h
  | .eptr o i g, cv, h => by
    simp only [mapV]
    cases hf : f o with
    | none => simp only [VR]
    | some j =>
      simp only [VR] at h ⊢
      cases ho : E.h[o]? with
      | none => simp [ho] at h
      | some ob =>
        obtain ⟨h1, h2⟩ := m.map o j ob hf ho
        rw [h1]
        cases ob <;> simp only [ho] at h <;> simp only [mapO]
        · obtain ⟨b, c, hι, rfl⟩ := h; exact ⟨b, c, h2 _ hι, rfl⟩
        · exact h
  | .sl o off len, cv, h => by
    simp only [mapV]
    cases hf : f o with
    | none => simp only [VR]
    | some j =>
      simp only [VR] at h ⊢
      cases ho : E.h[o]? with
      | none => simp [ho] at h
      | some ob =>
        obtain ⟨h1, h2⟩ := m.map o j ob hf ho
        rw [h1]
        cases ob <;> simp only [ho] at h <;> simp only [mapO]
        · obtain ⟨b, c, cap, hι, rfl, h3, h4, h5⟩ := h
          refine ⟨b, c, cap, h2 _ hι, rfl, h3, h4, ?_⟩
          unfold mapRows
          split
          · exact h5
          · simpa using h5
        · exact h
  | .rptr sh cs g, cv, h => by
    simp only [mapV]
    exact VR.pure m.st (.rptr sh cs g) cv (by simp [refsV]) h
  | .row nl sh rs, cv, h => by
    simp only [mapV]
    exact VR.pure m.st (.row nl sh rs) cv (by simp [refsV]) h
  | .fn g a b, cv, h => by
    simp only [mapV, VR] at h ⊢
    obtain ⟨p, q, rfl, h1, h2⟩ := h
    exact ⟨p, q, rfl, VL.map m a _ h1, VL.map m b _ h2⟩
  | .iface t v, cv, h => by
    simp only [mapV, VR] at h ⊢
    obtain ⟨u, rfl, h1⟩ := h
    exact ⟨u, rfl, VR.map m v u h1⟩
  | .agg cs, cv, h => by
    simp only [mapV, VR] at h ⊢
    obtain ⟨a, rfl, h1, h2⟩ := h
    exact ⟨a, rfl, VL.map m cs _ h1, h2⟩
  | .tup cs, cv, h => by
    simp only [mapV, VR] at h ⊢
    obtain ⟨a, rfl, h1⟩ := h
    exact ⟨a, rfl, VL.map m cs _ h1⟩
theorem VL.map {f : Nat → Option Nat} {E E' : En} (m : Mp f E E') : ∀ (vs : List AV) (cs : List Value), VL E vs cs → VL E' (mapL f vs) cs
  | [], [], _ => by simp only [VL, mapL]
  | [], _ :: _, h => by simp [VL] at h
  | _ :: _, [], h => by simp [VL] at h
  | v :: vs, c :: cs, h => by
    simp only [VL, mapL] at h ⊢
    exact ⟨VR.map m v c h.1, VL.map m vs cs h.2⟩
end
theorem CR.map {f : Nat → Option Nat} {E E' : En} (m : Mp f E E') {b : Nat} (hb : E'.w.heap[b]? = E.w.heap[b]?) : ∀ (cs : List AV) (off : Nat), CR E b off cs → CR E' b off (mapL f cs)
  | [], _, _ => by simp only [CR, mapL]
  | c :: cs, off, h => by
    simp only [CR, mapL] at h ⊢
    obtain ⟨⟨cv, h1, h2, h3⟩, h4⟩ := h
    exact ⟨⟨cv, by rw [cell_eq hb]; exact h1, h2, VR.map m c cv h3⟩, CR.map m hb cs (off + 1) h4⟩
theorem RR.map {f : Nat → Option Nat} {E E' : En} (m : Mp f E E') {b n : Nat} (hb : E'.w.heap[b]? = E.w.heap[b]?) : ∀ (rs : List (List AV)) (off : Nat), RR E b n off rs → RR E' b n off (rs.map (mapL f))
  | [], _, _ => by simp only [RR, List.map_nil]
  | r :: rs, off, h => by
    simp only [RR, List.map_cons] at h ⊢
    exact ⟨CR.map m hb r off h.1, RR.map m hb rs (off + n) h.2⟩
theorem mapL_get (f : Nat → Option Nat) : ∀ (l : List AV) (j : Nat), (mapL f l)[j]? = (l[j]?).map (mapV f)
  | [], _ => by simp [mapL]
  | v :: l, 0 => by simp [mapL]
  | v :: l, j + 1 => by simpa [mapL] using mapL_get f l j
theorem mapL_len (f : Nat → Option Nat) : ∀ (l : List AV), (mapL f l).length = l.length
  | [] => rfl
  | _ :: l => by simp [mapL, mapL_len f l]
theorem kOk_map {f : Nat → Option Nat} {k : K} {v : AV} (h : kOk k v = true) : kOk k (mapV f v) = true := by
  cases k with
  | any => rfl
  | _ => cases v <;> simp [kOk] at h <;> simp [mapV, kOk, h]
theorem rowOk_map {f : Nat → Option Nat} {sh : List K} {r : List AV} (h : rowOk sh r) : rowOk sh (mapL f r) := by
  refine ⟨by rw [mapL_len]; exact h.1, ?_⟩
  rw [List.all_eq_true]
  intro q hq
  obtain ⟨j, hj⟩ := List.getElem?_of_mem hq
  rw [List.getElem?_zip_eq_some, mapL_get] at hj
  obtain ⟨h1, h2⟩ := hj
  rw [Option.map_eq_some_iff] at h2
  obtain ⟨v, hv, h3⟩ := h2
  rw [← h3]
  exact kOk_map (h.k h1 hv)
theorem OR.map {f : Nat → Option Nat} {E E' : En} (m : Mp f E E') {b c : Nat} (hb : E'.w.heap[b]? = E.w.heap[b]?) : ∀ (ob : AObj), OR E b c ob → OR E' b c (mapO f ob)
  | .box cs, ⟨a, e, h1, h2, h3⟩ => ⟨a, e, by rw [hb]; exact h1, VL.map m cs _ h2, h3⟩
  | .arr md e sh rs, ⟨h0, a, lo, hi, h1, h2, h3, h4, h5, h6, h7⟩ => by
    simp only [mapO, mapRows]
    split
    · rename_i ht
      exact ⟨h0, a, lo, hi, by rw [hb]; exact h1, h2, h3, h4, h5, RR.pure m.st hb rs 0 (fun r hr => row_refs (h5 r hr) (by simp [pureR, ht])) h6, h7⟩
    · refine ⟨h0, a, lo, hi, by rw [hb]; exact h1, h2, by simpa using h3, h4, fun r hr => ?_, RR.map m hb rs 0 h6, h7⟩
      rw [List.mem_map] at hr
      obtain ⟨r', hr', rfl⟩ := hr
      exact rowOk_map (h5 r' hr')
  | .iter s p, h => by simp only [OR, mapO] at h ⊢; rw [hb]; exact h
  | .dead, _ => trivial
theorem mapO_mut (f : Nat → Option Nat) (ob : AObj) : (mapO f ob).mut = ob.mut := by cases ob <;> rfl
theorem mapO_cls (f : Nat → Option Nat) (ob : AObj) : (mapO f ob).cls = ob.cls := by cases ob <;> rfl
theorem mapO_dead {f : Nat → Option Nat} {ob : AObj} (h : mapO f ob = .dead) : ob = .dead := by cases ob <;> simp [mapO] at h; rfl
theorem mapO_len {f : Nat → Option Nat} {ob : AObj} {md md' : Nat} {e e' : TypeId} {sh sh' : List K} {rs rs' : List (List AV)} (h : ob = .arr md e sh rs) (k : mapO f ob = .arr md' e' sh' rs') : rs.length = rs'.length := by
  subst h
  simp only [mapO, AObj.arr.injEq] at k
  obtain ⟨_, _, _, rfl⟩ := k
  unfold mapRows
  split <;> simp

/-- Some of the objects, under new numbers. -/
def reE (E : En) (σ : List Nat) (X : Nat → Prop) : En := ⟨fun j => (σ[j]?).bind E.ι, σ.map fun i => mapO (idx · σ) (E.h.getD i .dead), E.w, X⟩
theorem reix_ok {E : En} (s : Sim E) {σ : List Nat} (hσ : σ.Nodup) (X : Nat → Prop) (hX : ∀ b, E.still b → ¬ X b) (hX2 : ∀ i b c, i ∈ σ → E.ι i = some (b, c) → ¬ X b) (hX3 : ∀ b, X b → b < E.w.heap.size) : Sim (reE E σ X) ∧ Mp (idx · σ) E (reE E σ X) ∧ (∀ b, E.quiet b → (reE E σ X).quiet b) := by
  have hι : ∀ j p, (reE E σ X).ι j = some p → ∃ i, σ[j]? = some i ∧ E.ι i = some p := fun j p h => by
    have : (σ[j]?).bind E.ι = some p := h
    rw [Option.bind_eq_some_iff] at this
    exact this
  have hh : ∀ (j : Nat) (ob : AObj), (reE E σ X).h[j]? = some ob → ∃ i, σ[j]? = some i ∧ ob = mapO (idx · σ) (E.h.getD i .dead) := fun j ob h => by
    have : (σ.map fun i => mapO (idx · σ) (E.h.getD i .dead))[j]? = some ob := h
    rw [List.getElem?_map, Option.map_eq_some_iff] at this
    obtain ⟨i, h1, h2⟩ := this
    exact ⟨i, h1, h2.symm⟩
  have hq : ∀ b, E.quiet b → (reE E σ X).quiet b := fun b hb => ⟨hb.1, fun j c ob h1 h2 => by
    obtain ⟨i, hi, h3⟩ := hι j _ h1
    obtain ⟨i', hi', rfl⟩ := hh j ob h2
    rw [hi] at hi'; cases hi'
    rw [mapO_mut]
    have hlt := (s.lt i b c h3).1
    have hg : E.h[i]? = some E.h[i] := List.getElem?_eq_getElem hlt
    rw [List.getD_eq_getElem?_getD, hg]
    exact hb.2 i c _ h3 hg⟩
  have m : Mp (idx · σ) E (reE E σ X) := by
    refine ⟨fun o j ob hf ho => ?_, fun b hb => ⟨⟨hq b hb.1, hX b hb⟩, rfl⟩⟩
    have hg := idx_get hf
    refine ⟨?_, fun p hp => ?_⟩
    · show (σ.map fun i => mapO (idx · σ) (E.h.getD i .dead))[j]? = _
      rw [List.getElem?_map, hg]
      simp [List.getD_eq_getElem?_getD, ho]
    · show (σ[j]?).bind E.ι = some p
      rw [hg]; exact hp
  refine ⟨⟨fun i j b c d hi hj => ?_, fun j b c hj => ?_, fun j b c ob hj ho => ?_, fun j b c hj => ?_, hX3⟩, m, hq⟩
  · obtain ⟨i', h1, h2⟩ := hι i _ hi
    obtain ⟨j', h3, h4⟩ := hι j _ hj
    have : i' = j' := s.inj _ _ _ _ _ h2 h4
    subst this
    have := (idx_of hσ h1).symm.trans (idx_of hσ h3)
    exact Option.some.inj this
  · obtain ⟨i, h1, h2⟩ := hι j _ hj
    exact ⟨by show j < (σ.map _).length; simpa using (List.getElem?_eq_some_iff.1 h1).1, (s.lt i b c h2).2⟩
  · obtain ⟨i, h1, h2⟩ := hι j _ hj
    obtain ⟨i', h3, rfl⟩ := hh j ob ho
    rw [h1] at h3; cases h3
    have hlt := (s.lt i b c h2).1
    have hg : E.h[i]? = some E.h[i] := List.getElem?_eq_getElem hlt
    rw [List.getD_eq_getElem?_getD, hg]
    exact OR.map m rfl _ (s.obj i b c _ h2 hg)
  · obtain ⟨i, h1, h2⟩ := hι j _ hj
    exact hX2 i b c (List.mem_of_getElem? h1) h2

/-! ### Collected -/
theorem collect_nodup (h : List AObj) : ∀ (k : Nat) (todo seen : List Nat), seen.Nodup → (collect h k todo seen).Nodup
  | 0, _, _, hs => hs
  | _ + 1, [], _, hs => hs
  | k + 1, i :: todo, seen, hs => by
    simp only [collect]
    split
    · exact collect_nodup h k todo seen hs
    · rename_i hi
      split
      · refine collect_nodup h k _ _ ?_
        rw [List.nodup_append]
        refine ⟨hs, by simp, fun a ha b hb => ?_⟩
        simp at hb
        subst hb
        intro e
        subst e
        exact idx_none (by simpa using hi) ha
      · exact collect_nodup h k todo seen hs
theorem collect_prefix (h : List AObj) : ∀ (k : Nat) (todo seen : List Nat), ∃ l, collect h k todo seen = seen ++ l
  | 0, _, _ => ⟨[], by simp [collect]⟩
  | _ + 1, [], _ => ⟨[], by simp [collect]⟩
  | k + 1, i :: todo, seen => by
    simp only [collect]
    split
    · exact collect_prefix h k todo seen
    · split
      · obtain ⟨l, hl⟩ := collect_prefix h k (refsO _ ++ todo) (seen ++ [i])
        exact ⟨i :: l, by rw [hl]; simp⟩
      · exact collect_prefix h k todo seen
theorem collect_good (h : List AObj) (G : Nat → Prop) (hG : ∀ i ob, G i → h[i]? = some ob → ∀ j ∈ refsO ob, G j) : ∀ (k : Nat) (todo seen : List Nat), (∀ i ∈ todo, G i) → (∀ i ∈ seen, G i) → ∀ i ∈ collect h k todo seen, G i
  | 0, _, _, _, hs => hs
  | _ + 1, [], _, _, hs => hs
  | k + 1, i :: todo, seen, ht, hs => by
    simp only [collect]
    split
    · exact collect_good h G hG k todo seen (fun j hj => ht j (by simp [hj])) hs
    · split
      · rename_i ob ho
        refine collect_good h G hG k _ _ (fun j hj => ?_) (fun j hj => ?_)
        · rcases List.mem_append.1 hj with hj | hj
          · exact hG i ob (ht i (by simp)) ho j hj
          · exact ht j (by simp [hj])
        · rcases List.mem_append.1 hj with hj | hj
          · exact hs j hj
          · simp at hj; subst hj; exact ht _ (by simp)
      · exact collect_good h G hG k todo seen (fun j hj => ht j (by simp [hj])) hs

/-- What is meant by a reference: it stands somewhere, or is dead. -/
def En.good (E : En) (o : Nat) : Prop := (∃ p, E.ι o = some p) ∨ E.h[o]? = some .dead
mutual
theorem VR.refs {E : En} : ∀ (v : AV) (cv : Value), VR E v cv → ∀ o ∈ refsV v, E.good o
  | .int _ _, _, _ | .bool _, _, _ | .str _, _, _ | .nilp, _, _ | .nils, _, _ | .nilf, _, _ | .nili, _, _ | .gone, _, _ | .rptr _ _ _, _, _ | .row _ _ _, _, _ => by simp [refsV]
  | .ptr o off, cv, h => by
    intro o' ho'
    simp [refsV] at ho'; subst ho'
    simp only [VR] at h
    cases ho : E.h[o']? with
    | none => simp [ho] at h
    | some ob =>
      cases ob <;> simp only [ho] at h <;> try (exact h.elim)
      · obtain ⟨b, c, hι, _⟩ := h; exact .inl ⟨_, hι⟩
      · obtain ⟨b, c, hι, _⟩ := h; exact .inl ⟨_, hι⟩
      · exact .inr ho
  | .eptr o i f, cv, h => by
    intro o' ho'
    simp [refsV] at ho'; subst ho'
    simp only [VR] at h
    cases ho : E.h[o']? with
    | none => simp [ho] at h
    | some ob =>
      cases ob <;> simp only [ho] at h <;> try (exact h.elim)
      · obtain ⟨b, c, hι, _⟩ := h; exact .inl ⟨_, hι⟩
      · exact .inr ho
  | .sl o i f, cv, h => by
    intro o' ho'
    simp [refsV] at ho'; subst ho'
    simp only [VR] at h
    cases ho : E.h[o']? with
    | none => simp [ho] at h
    | some ob =>
      cases ob <;> simp only [ho] at h <;> try (exact h.elim)
      · obtain ⟨b, c, cap, hι, _⟩ := h; exact .inl ⟨_, hι⟩
      · exact .inr ho
  | .fn f a b, cv, h => by
    simp only [VR] at h
    obtain ⟨p, q, rfl, h1, h2⟩ := h
    intro o ho
    simp only [refsV] at ho
    rcases List.mem_append.1 ho with ho | ho
    · exact VL.refs a _ h1 o ho
    · exact VL.refs b _ h2 o ho
  | .iface t v, cv, h => by
    simp only [VR] at h
    obtain ⟨u, rfl, h1⟩ := h
    intro o ho
    simp only [refsV] at ho
    exact VR.refs v u h1 o ho
  | .agg cs, cv, h => by
    simp only [VR] at h
    obtain ⟨a, rfl, h1, h2⟩ := h
    intro o ho
    simp only [refsV] at ho
    exact VL.refs cs _ h1 o ho
  | .tup cs, cv, h => by
    simp only [VR] at h
    obtain ⟨a, rfl, h1⟩ := h
    intro o ho
    simp only [refsV] at ho
    exact VL.refs cs _ h1 o ho
theorem VL.refs {E : En} : ∀ (vs : List AV) (cs : List Value), VL E vs cs → ∀ o ∈ refsL vs, E.good o
  | [], _, _ => by simp [refsL]
  | _ :: _, [], h => by simp [VL] at h
  | v :: vs, c :: cs, h => by
    simp only [VL] at h
    intro o ho
    simp only [refsL] at ho
    rcases List.mem_append.1 ho with ho | ho
    · exact VR.refs v c h.1 o ho
    · exact VL.refs vs cs h.2 o ho
end
theorem CR.refs {E : En} {b : Nat} : ∀ (cs : List AV) (off : Nat), CR E b off cs → ∀ o ∈ refsL cs, E.good o
  | [], _, _ => by simp [refsL]
  | c :: cs, off, h => by
    simp only [CR] at h
    obtain ⟨⟨cv, _, _, h3⟩, h4⟩ := h
    intro o ho
    simp only [refsL] at ho
    rcases List.mem_append.1 ho with ho | ho
    · exact VR.refs c cv h3 o ho
    · exact CR.refs cs _ h4 o ho
theorem OR.refs {E : En} {b c : Nat} : ∀ (ob : AObj), OR E b c ob → ∀ o ∈ refsO ob, E.good o
  | .box cs, ⟨a, e, h1, h2, h3⟩ => by intro o ho; exact VL.refs cs _ h2 o ho
  | .arr md e sh rs, ⟨h0, a, lo, hi, h1, h2, h3, h4, h5, h6, h7⟩ => by
    intro o ho
    simp only [refsO] at ho
    split at ho
    · cases ho
    · rw [List.mem_flatMap] at ho
      obtain ⟨r, hr, ho⟩ := ho
      obtain ⟨j, hj⟩ := List.getElem?_of_mem hr
      exact CR.refs r _ (h6.get j r hj) o ho
  | .iter s p, _ => by simp [refsO]
  | .dead, _ => by simp [refsO]
theorem Sim.good {E : En} (s : Sim E) : ∀ i ob, E.good i → E.h[i]? = some ob → ∀ j ∈ refsO ob, E.good j := fun i ob hg ho => by
  rcases hg with ⟨⟨b, c⟩, hp⟩ | hd
  · exact OR.refs ob (s.obj i b c ob hp ho)
  · rw [hd] at ho; cases ho; simp [refsO]
end Go.Proofs.YthihinlamlamhaaE
