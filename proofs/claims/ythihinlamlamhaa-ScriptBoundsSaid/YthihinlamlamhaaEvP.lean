/- Calls: the callee gets only the objects that its arguments reach. -/
import Derived.Test.YthihinlamlamhaaEvO
namespace Go.Proofs.YthihinlamlamhaaE
open Go

mutual
theorem sls_refs : ∀ (v : AV) (o : Nat), o ∈ slsV v → o ∈ refsV v
  | .sl o _ _, _, h => by simpa [slsV, refsV] using h
  | .fn _ a b, o, h => by
    simp only [slsV, refsV, List.mem_append] at h ⊢
    rcases h with h | h
    · exact .inl (slsL_refs a o h)
    · exact .inr (slsL_refs b o h)
  | .iface _ v, o, h => by simp only [slsV, refsV] at h ⊢; exact sls_refs v o h
  | .agg cs, o, h => by simp only [slsV, refsV] at h ⊢; exact slsL_refs cs o h
  | .tup cs, o, h => by simp only [slsV, refsV] at h ⊢; exact slsL_refs cs o h
  | .int _ _, _, h | .bool _, _, h | .str _, _, h | .nilp, _, h | .nils, _, h | .nilf, _, h | .nili, _, h | .gone, _, h | .rptr _ _ _, _, h | .row _ _ _, _, h | .ptr _ _, _, h | .eptr _ _ _, _, h => by simp [slsV] at h
theorem slsL_refs : ∀ (l : List AV) (o : Nat), o ∈ slsL l → o ∈ refsL l
  | [], _, h => by simp [slsL] at h
  | v :: l, o, h => by
    simp only [slsL, refsL, List.mem_append] at h ⊢
    rcases h with h | h
    · exact .inl (sls_refs v o h)
    · exact .inr (slsL_refs l o h)
end

theorem collect_lt (h : List AObj) : ∀ (k : Nat) (todo seen : List Nat), (∀ i ∈ seen, i < h.length) → ∀ i ∈ collect h k todo seen, i < h.length
  | 0, _, _, hs => hs
  | _ + 1, [], _, hs => hs
  | k + 1, i :: todo, seen, hs => by
    simp only [collect]
    split
    · exact collect_lt h k todo seen hs
    · split
      · rename_i ob ho
        refine collect_lt h k _ _ fun j hj => ?_
        rcases List.mem_append.1 hj with hj | hj
        · exact hs j hj
        · simp at hj; subst hj; exact (List.getElem?_eq_some_iff.1 ho).1
      · exact collect_lt h k todo seen hs
theorem setMany_len : ∀ (σ : List Nat) (l h : List AObj), (setMany h σ l).length = h.length
  | [], _, _ => by simp [setMany]
  | _ :: _, [], _ => by simp [setMany]
  | i :: σ, ob :: l, h => by simp only [setMany]; rw [setMany_len σ l]; simp
theorem setMany_out : ∀ (σ : List Nat) (l h : List AObj) (i : Nat), i ∉ σ → (setMany h σ l)[i]? = h[i]?
  | [], _, _, _, _ => by simp [setMany]
  | _ :: _, [], _, _, _ => by simp [setMany]
  | x :: σ, ob :: l, h, i, hi => by
    simp only [List.mem_cons, not_or] at hi
    simp only [setMany]
    rw [setMany_out σ l _ i hi.2, List.getElem?_set, if_neg (Ne.symm hi.1)]
theorem setMany_in : ∀ (σ : List Nat) (l h : List AObj) (i j : Nat), σ.Nodup → l.length = σ.length → (∀ x ∈ σ, x < h.length) → σ[j]? = some i → (setMany h σ l)[i]? = l[j]?
  | [], _, _, _, _, _, _, _, hj => by simp at hj
  | _ :: _, [], _, _, _, _, hl, _, _ => by simp at hl
  | x :: σ, ob :: l, h, i, j, hn, hl, hlt, hj => by
    rw [List.nodup_cons] at hn
    simp only [setMany]
    cases j with
    | zero =>
      simp at hj; subst hj
      rw [setMany_out σ l _ x hn.1]
      simp [hlt x (by simp)]
    | succ j =>
      simp at hj
      rw [setMany_in σ l (h.set x ob) i j hn.2 (by simpa using hl) (fun y hy => by simpa using hlt y (by simp [hy])) hj]
      simp

/-- What a call of the interpreter's answers for. -/
def SoundF (P : Program) (F : CallF) : Prop := ∀ g args h v h', F g args h = some (v, h') → ∀ E : En, E.h = h → Sim E → ∀ cargs : Array Value, VL E args cargs.toList →
  Calls P g cargs E.w fun e w' => ∃ cv ι', e = .returned cv ∧ Sim ⟨ι', h', w', E.X⟩ ∧ Ext E ⟨ι', h', w', E.X⟩ ∧ Wd E.w w' ∧ VR ⟨ι', h', w', E.X⟩ v cv

theorem roO_dead {ob : AObj} (h : roO ob = .dead) : ob = .dead := by cases ob <;> simp [roO] at h; rfl

theorem call_ok {P : Program} {F : CallF} (hF : SoundF P F) {E : En} (s : Sim E) {g : FuncId} {args : List AV} {cargs : Array Value} {v : AV} {h' : List AObj} (hargs : VL E args cargs.toList) (h : callA F E.h g args = some (v, h')) :
    Calls P g cargs E.w fun e w' => ∃ cv ι', e = .returned cv ∧ Sim ⟨ι', h', w', E.X⟩ ∧ Ext E ⟨ι', h', w', E.X⟩ ∧ Wd E.w w' ∧ VR ⟨ι', h', w', E.X⟩ v cv ∧
      (∀ i ob, E.ι i = none → E.h[i]? = some ob → ob ≠ .dead → ι' i = none ∧ h'[i]? = some ob) ∧ (∀ i, i ∉ sig E.h args → i < E.h.length → (h'[i]?).map roO = (E.h[i]?).map roO) := by
  unfold callA at h
  split at h
  · rename_i v0 h2 hrun
    split at h
    · rename_i hkm
      cases h
      -- frozen
      obtain ⟨s1, x1⟩ := mark_ok s (slsL args)
      have hargs1 := frL_ok s args _ hargs (fun o ho => ho)
      have hh1 : heapF E.h args = (mkE E (slsL args)).h := rfl
      have hn1 : (mkE E (slsL args)).h.length = E.h.length := markRo_len _ _
      generalize hE1 : mkE E (slsL args) = E1 at *
      have hι1 : E1.ι = E.ι := by rw [← hE1]; rfl
      have hw1 : E1.w = E.w := by rw [← hE1]; rfl
      have hX1 : E1.X = E.X := by rw [← hE1]; rfl
      have hnod : (sig E.h args).Nodup := collect_nodup _ _ _ _ (by simp)
      have hsl : ∀ i ∈ sig E.h args, i < E.h.length := fun i hi => by
        have := collect_lt (heapF E.h args) 1000 (refsL (argsF E.h args)) [] (by simp) i hi
        rw [hh1, hn1] at this; exact this
      have hgood : ∀ i ∈ sig E.h args, E1.good i := by
        have := collect_good (heapF E.h args) E1.good (by rw [hh1]; exact s1.good) 1000 (refsL (argsF E.h args)) [] (VL.refs _ _ hargs1) (by simp)
        exact this
      rw [hh1] at hrun ⊢
      generalize hσ : sig E.h args = σ at *
      have hXc : ∀ b, E1.still b → ¬ (E.X b ∨ ∃ i c ob, E.ι i = some (b, c) ∧ E1.h[i]? = some ob ∧ ob.mut = true ∧ i ∉ σ) := fun b hb hx => by
        rcases hx with hx | ⟨i, c, ob, h1, h2, h3, _⟩
        · exact hb.2 (by rw [hX1]; exact hx)
        · have := hb.1.2 i c ob (by rw [hι1]; exact h1) h2
          rw [h3] at this; cases this
      obtain ⟨sc, mc, qc⟩ := reix_ok s1 hnod (fun b => E.X b ∨ ∃ i c ob, E.ι i = some (b, c) ∧ E1.h[i]? = some ob ∧ ob.mut = true ∧ i ∉ σ) hXc
        (fun i b c hi hib hx => by
          rw [hι1] at hib
          rcases hx with hx | ⟨i', c', ob, h1, _, _, h4⟩
          · exact s.nx i b c hib hx
          · exact h4 (by rw [s.inj i' i b c' c h1 hib]; exact hi))
        (fun b hx => by
          rw [hw1]
          rcases hx with hx | ⟨i', c', ob, h1, _⟩
          · exact s.xlt b hx
          · exact (s.lt i' b c' h1).2)
      have hargsc := VL.map mc _ _ hargs1
      have hcall := hF g _ _ v0 h2 hrun _ rfl sc cargs hargsc
      have hwc : (reE E1 σ (fun b => E.X b ∨ ∃ i c ob, E.ι i = some (b, c) ∧ E1.h[i]? = some ob ∧ ob.mut = true ∧ i ∉ σ)).w = E.w := hw1
      rw [hwc] at hcall
      refine hcall.mono ?_
      rintro e w2 ⟨cv, ι2, rfl, s2, x2, wd, hv⟩
      -- back
      let Xc : Nat → Prop := fun b => E.X b ∨ ∃ i c ob, E.ι i = some (b, c) ∧ E1.h[i]? = some ob ∧ ob.mut = true ∧ i ∉ σ
      let E2 : En := ⟨ι2, h2, w2, Xc⟩
      let τ := backTo E.h.length σ h2.length
      let hh := setMany E1.h σ ((h2.take σ.length).map (mapO τ)) ++ (h2.drop σ.length).map (mapO τ)
      let ι' : Nat → Option (Nat × Nat) := fun i => if i < E.h.length then (match idx i σ with | some j => ι2 j | none => E.ι i) else ι2 (i - E.h.length + σ.length)
      have hlenS : (setMany E1.h σ ((h2.take σ.length).map (mapO τ))).length = E.h.length := by rw [setMany_len, hn1]
      have hA : ∀ i, i < E.h.length → i ∉ σ → hh[i]? = E1.h[i]? ∧ ι' i = E.ι i := fun i hi hni => by
        refine ⟨?_, ?_⟩
        · show (setMany _ _ _ ++ _)[i]? = _
          rw [List.getElem?_append, if_pos (by rw [hlenS]; exact hi), setMany_out _ _ _ _ hni]
        · show (if i < E.h.length then _ else _) = _
          rw [if_pos hi]
          cases hx : idx i σ with
          | none => rfl
          | some j => exact absurd (List.mem_of_getElem? (idx_get hx)) hni
      have hB : ∀ i j, τ j = some i → hh[i]? = (h2[j]?).map (mapO τ) ∧ ι' i = ι2 j ∧ j < h2.length := fun i j hj => by
        have hj : backTo E.h.length σ h2.length j = some i := hj
        unfold backTo at hj
        split at hj
        · rename_i i' hi'
          cases hj
          have hjl : j < σ.length := (List.getElem?_eq_some_iff.1 hi').1
          have hil := hsl i (List.mem_of_getElem? hi')
          refine ⟨?_, ?_, by omega⟩
          · show (setMany _ _ _ ++ _)[i]? = _
            rw [List.getElem?_append, if_pos (by rw [hlenS]; exact hil), setMany_in σ _ _ i j hnod (by simp; omega) (fun x hx => by rw [hn1]; exact hsl x hx) hi', List.getElem?_map, List.getElem?_take, if_pos hjl]
          · show (if i < E.h.length then _ else _) = _
            rw [if_pos hil, idx_of hnod hi']
        · rename_i hnone
          split at hj
          · rename_i hjm
            cases hj
            have hjl : σ.length ≤ j := by simpa using hnone
            refine ⟨?_, ?_, hjm⟩
            · show (setMany _ _ _ ++ _)[_]? = _
              rw [List.getElem?_append, if_neg (by rw [hlenS]; omega), hlenS, List.getElem?_map, List.getElem?_drop]
              congr 2
              omega
            · show (if _ < E.h.length then _ else _) = _
              rw [if_neg (by omega)]
              congr 1
              omega
          · cases hj
      have hcase : ∀ i p, ι' i = some p → (i < E.h.length ∧ i ∉ σ) ∨ ∃ j, τ j = some i := fun i p hp => by
        by_cases hi : i < E.h.length
        · by_cases hm : i ∈ σ
          · right
            obtain ⟨j, hj⟩ := List.getElem?_of_mem hm
            exact ⟨j, by show backTo _ _ _ j = _; unfold backTo; rw [hj]⟩
          · exact .inl ⟨hi, hm⟩
        · right
          have hp : (if i < E.h.length then (match idx i σ with | some j => ι2 j | none => E.ι i) else ι2 (i - E.h.length + σ.length)) = some p := hp
          rw [if_neg hi] at hp
          have := (s2.lt _ p.1 p.2 hp).1
          refine ⟨i - E.h.length + σ.length, ?_⟩
          show backTo _ _ _ _ = _
          unfold backTo
          have hnone : σ[i - E.h.length + σ.length]? = none := by simp
          rw [hnone]
          simp only
          rw [if_pos this]
          congr 1
          omega
      have hτinj : ∀ i j j', τ j = some i → τ j' = some i → ι2 j = ι2 j' := fun i j j' h1 h2' => by
        rw [← (hB i j h1).2.1, (hB i j' h2').2.1]
      have hιc : ∀ j p, (reE E1 σ Xc).ι j = some p → ∃ i, σ[j]? = some i ∧ E.ι i = some p := fun j p hp => by
        have hp : (σ[j]?).bind E1.ι = some p := hp
        rw [Option.bind_eq_some_iff, hι1] at hp
        exact hp
      have hqA : ∀ b, (∀ o c ob, E2.ι o = some (b, c) → E2.h[o]? = some ob → ob.mut = false) → (∀ i c ob, i ∉ σ → E.ι i = some (b, c) → E1.h[i]? = some ob → ob.mut = false) → b < w2.heap.size → (⟨ι', hh, w2, E.X⟩ : En).quiet b := fun b hq2 hq1 hb => by
        refine ⟨hb, fun i c ob hi ho => ?_⟩
        rcases hcase i _ hi with ⟨h1, h3⟩ | ⟨j, hj⟩
        · obtain ⟨k1, k2⟩ := hA i h1 h3
          exact hq1 i c ob h3 (k2.symm.trans hi) (k1.symm.trans ho)
        · obtain ⟨k1, k2, k3⟩ := hB i j hj
          have ho' : (h2[j]?).map (mapO τ) = some ob := k1.symm.trans ho
          rw [Option.map_eq_some_iff] at ho'
          obtain ⟨ob2, h4, rfl⟩ := ho'
          rw [mapO_mut]
          exact hq2 j c ob2 (k2.symm.trans hi) h4
      have mp : Mp τ E2 ⟨ι', hh, w2, E.X⟩ := by
        refine ⟨fun o j ob hf ho => ?_, fun b hb => ⟨⟨hqA b hb.1.2 (fun i c ob hi h1 h3 => ?_) hb.1.1, fun hx => hb.2 (.inl hx)⟩, rfl⟩⟩
        · obtain ⟨k1, k2, _⟩ := hB j o hf
          refine ⟨?_, fun p hp => k2.trans hp⟩
          show hh[j]? = _
          rw [k1]
          have ho : h2[o]? = some ob := ho
          rw [ho]; rfl
        · cases hm : ob.mut with
          | false => rfl
          | true => exact absurd (.inr ⟨i, c, ob, h1, h3, hm, hi⟩) hb.2
      have x : Ext E ⟨ι', hh, w2, E.X⟩ := by
        refine ⟨fun i ob ho => ?_, fun b hb => ?_, fun i b c hi => ?_, wd.size, rfl⟩
        · have hil : i < E.h.length := (List.getElem?_eq_some_iff.1 ho).1
          obtain ⟨ob1, k1, kd⟩ := x1.cls i ob ho
          by_cases hm : i ∈ σ
          · obtain ⟨j, hj⟩ := List.getElem?_of_mem hm
            have hτj : τ j = some i := by show backTo _ _ _ j = _; unfold backTo; rw [hj]
            obtain ⟨m1, m2, m3⟩ := hB i j hτj
            have hcj : (reE E1 σ Xc).h[j]? = some (mapO (idx · σ) ob1) := by
              show (σ.map fun i => mapO (idx · σ) (E1.h.getD i .dead))[j]? = _
              rw [List.getElem?_map, hj]
              simp [List.getD_eq_getElem?_getD, k1]
            obtain ⟨ob2, n1, nd⟩ := x2.cls j _ hcj
            have n1 : h2[j]? = some ob2 := n1
            refine ⟨mapO τ ob2, by show hh[i]? = _; rw [m1, n1]; rfl, ?_⟩
            rcases nd with rfl | ⟨c1, c2, c3⟩
            · exact .inl rfl
            · rcases kd with rfl | ⟨d1, d2, d3⟩
              · left
                simp only [mapO] at c1
                rw [cls_dead c1]; rfl
              · refine .inr ⟨by rw [mapO_cls, ← c1, mapO_cls]; exact d1, fun p hp => ?_, fun md e sh rs md' e' sh' rs' e1 e2 => ?_⟩
                · show ι' i = some p
                  rw [m2]
                  refine c2 p ?_
                  show (σ[j]?).bind E1.ι = some p
                  rw [hj, hι1]; exact hp
                · subst e1
                  obtain ⟨md1, e1', rs1, rfl⟩ := cls_arr d1
                  have l1 := d3 _ _ _ _ _ _ _ _ rfl rfl
                  obtain ⟨md2, e2', rs2, rfl⟩ := cls_arr (c1 : (AObj.arr md1 e1' sh _).cls = ob2.cls)
                  have l2 := c3 _ _ _ _ _ _ _ _ rfl rfl
                  have l3 := mapO_len rfl e2
                  have l0 : (mapRows (idx · σ) sh rs1).length = rs1.length := by unfold mapRows; split <;> simp
                  omega
          · obtain ⟨m1, m2⟩ := hA i hil hm
            refine ⟨ob1, by show hh[i]? = _; rw [m1]; exact k1, ?_⟩
            rcases kd with kd | ⟨d1, d2, d3⟩
            · exact .inl kd
            · exact .inr ⟨d1, fun p hp => m2.trans hp, d3⟩
        · have q1 := (x1.st b hb).1
          have q2 := x2.st b (qc b q1)
          refine ⟨hqA b q2.1.2 (fun i c ob _ h1 h3 => q1.2 i c ob (by rw [hι1]; exact h1) h3) q2.1.1, ?_⟩
          have := q2.2
          rw [hwc] at this
          exact this
        · rcases hcase i _ hi with ⟨h1, h3⟩ | ⟨j, hj⟩
          · exact .inr ⟨i, c, (hA i h1 h3).2.symm.trans hi⟩
          · rcases x2.rng j b c ((hB i j hj).2.1.symm.trans hi) with h4 | ⟨j', d, h4⟩
            · exact .inl (by rw [hwc] at h4; exact h4)
            · obtain ⟨i', _, h6⟩ := hιc j' _ h4
              exact .inr ⟨i', d, h6⟩
      have hsim : Sim ⟨ι', hh, w2, E.X⟩ := by
        have cross : ∀ i j b c d, i ∉ σ → E.ι i = some (b, c) → ι2 j = some (b, d) → False := fun i j b c d hi h1 h3 => by
          rcases x2.rng j b d h3 with h4 | ⟨j', d', h4⟩
          · rw [hwc] at h4
            have := (s.lt i b c h1).2
            omega
          · obtain ⟨i', h5, h6⟩ := hιc j' _ h4
            have := s.inj i' i b d' c h6 h1
            subst this
            exact hi (List.mem_of_getElem? h5)
        refine ⟨fun i j b c d hi hj => ?_, fun i b c hi => ?_, fun i b c ob hi ho => ?_, fun i b c hi hx => ?_, fun b hb => Nat.lt_of_lt_of_le (s.xlt b hb) wd.size⟩
        · have hi : ι' i = some (b, c) := hi
          have hj : ι' j = some (b, d) := hj
          rcases hcase i _ hi with ⟨h1, h3⟩ | ⟨i', hi'⟩ <;> rcases hcase j _ hj with ⟨k1, k3⟩ | ⟨j', hj'⟩
          · rw [(hA i h1 h3).2] at hi; rw [(hA j k1 k3).2] at hj
            exact s.inj i j b c d hi hj
          · rw [(hA i h1 h3).2] at hi; rw [(hB j j' hj').2.1] at hj
            exact (cross i j' b c d h3 hi hj).elim
          · rw [(hB i i' hi').2.1] at hi; rw [(hA j k1 k3).2] at hj
            exact (cross j i' b d c k3 hj hi).elim
          · rw [(hB i i' hi').2.1] at hi; rw [(hB j j' hj').2.1] at hj
            have := s2.inj i' j' b c d hi hj
            subst this
            rw [hi'] at hj'; exact Option.some.inj hj'
        · have hi : ι' i = some (b, c) := hi
          rcases hcase i _ hi with ⟨h1, h3⟩ | ⟨j, hj⟩
          · rw [(hA i h1 h3).2] at hi
            refine ⟨?_, Nat.lt_of_lt_of_le (s.lt i b c hi).2 wd.size⟩
            show i < (setMany _ _ _ ++ _).length
            rw [List.length_append, hlenS]; omega
          · obtain ⟨k1, k2, k3⟩ := hB i j hj
            rw [k2] at hi
            refine ⟨?_, (s2.lt j b c hi).2⟩
            have : hh[i]? = some (mapO τ h2[j]) := by rw [k1, List.getElem?_eq_getElem k3]; rfl
            exact (List.getElem?_eq_some_iff.1 this).1
        · have hi : ι' i = some (b, c) := hi
          have ho : hh[i]? = some ob := ho
          rcases hcase i _ hi with ⟨h1, h3⟩ | ⟨j, hj⟩
          · rw [(hA i h1 h3).2] at hi; rw [(hA i h1 h3).1] at ho
            have hor := s1.obj i b c ob (by rw [hι1]; exact hi) ho
            -- the block is quiet for the callee
            have hqc : (reE E1 σ Xc).quiet b := ⟨by rw [hwc]; exact (s.lt i b c hi).2, fun j' c' ob' h4 _ => by
              obtain ⟨i', h5, h6⟩ := hιc j' _ h4
              have := s.inj i' i b c' c h6 hi
              subst this
              exact absurd (List.mem_of_getElem? h5) h3⟩
            have hblk := (x2.st b hqc).2
            rw [hwc] at hblk
            have hx1 : Ext E1 ⟨ι', hh, w2, E.X⟩ := by
              refine ⟨fun i ob ho => ?_, fun b hb => ?_, fun i b c hi => ?_, by rw [hw1]; exact wd.size, hX1.symm⟩
              · have hil : i < E.h.length := by rw [← hn1]; exact (List.getElem?_eq_some_iff.1 ho).1
                by_cases hm : i ∈ σ
                · obtain ⟨j, hj⟩ := List.getElem?_of_mem hm
                  have hτj : τ j = some i := by show backTo _ _ _ j = _; unfold backTo; rw [hj]
                  obtain ⟨m1, m2, m3⟩ := hB i j hτj
                  have hcj : (reE E1 σ Xc).h[j]? = some (mapO (idx · σ) ob) := by
                    show (σ.map fun i => mapO (idx · σ) (E1.h.getD i .dead))[j]? = _
                    rw [List.getElem?_map, hj]
                    simp [List.getD_eq_getElem?_getD, ho]
                  obtain ⟨ob2, n1, nd⟩ := x2.cls j _ hcj
                  have n1 : h2[j]? = some ob2 := n1
                  refine ⟨mapO τ ob2, by show hh[i]? = _; rw [m1, n1]; rfl, ?_⟩
                  rcases nd with rfl | ⟨c1, c2, c3⟩
                  · exact .inl rfl
                  · refine .inr ⟨by rw [mapO_cls, ← c1, mapO_cls], fun p hp => ?_, fun md e sh rs md' e' sh' rs' e1 e2 => ?_⟩
                    · show ι' i = some p
                      rw [m2]
                      refine c2 p ?_
                      show (σ[j]?).bind E1.ι = some p
                      rw [hj]; exact hp
                    · subst e1
                      obtain ⟨md2, e2', rs2, rfl⟩ := cls_arr (c1 : (AObj.arr md e sh _).cls = ob2.cls)
                      have l2 := c3 _ _ _ _ _ _ _ _ rfl rfl
                      have l3 := mapO_len rfl e2
                      have l0 : (mapRows (idx · σ) sh rs).length = rs.length := by unfold mapRows; split <;> simp
                      omega
                · obtain ⟨m1, m2⟩ := hA i hil hm
                  exact ⟨ob, by show hh[i]? = _; rw [m1]; exact ho, .inr ⟨rfl, fun p hp => m2.trans (by rw [← hι1]; exact hp), fun _ _ _ _ _ _ _ _ e1 e2 => (by rw [e1] at e2; cases e2; rfl)⟩⟩
              · have q2 := x2.st b (qc b hb)
                refine ⟨hqA b q2.1.2 (fun i c ob _ h1 h3 => hb.2 i c ob (by rw [hι1]; exact h1) h3) q2.1.1, ?_⟩
                have := q2.2
                rw [hwc] at this
                rw [hw1]
                exact this
              · rcases x.rng i b c hi with h | ⟨i', d, h⟩
                · exact .inl (by rw [hw1]; exact h)
                · exact .inr ⟨i', d, by rw [hι1]; exact h⟩
            exact OR.ext hx1 (by rw [hw1]; exact hblk) ob hor
          · obtain ⟨k1, k2, k3⟩ := hB i j hj
            rw [k2] at hi
            rw [k1, Option.map_eq_some_iff] at ho
            obtain ⟨ob2, h4, rfl⟩ := ho
            exact OR.map mp rfl ob2 (s2.obj j b c ob2 hi h4)
        · have hi : ι' i = some (b, c) := hi
          rcases hcase i _ hi with ⟨h1, h3⟩ | ⟨j, hj⟩
          · rw [(hA i h1 h3).2] at hi
            exact s.nx i b c hi hx
          · rw [(hB i j hj).2.1] at hi
            exact s2.nx j b c hi (.inl hx)
      refine ⟨cv, ι', rfl, hsim, x, wd, VR.map mp v0 cv hv, fun i ob hi ho hd => ?_, fun i hi hil => ?_⟩
      · have hil : i < E.h.length := (List.getElem?_eq_some_iff.1 ho).1
        have hns : i ∉ slsL args := fun hm => by
          rcases VL.refs args _ hargs i (slsL_refs args i hm) with ⟨p, hp⟩ | hp
          · rw [hi] at hp; cases hp
          · rw [ho] at hp; exact hd (Option.some.inj hp)
        have h1i : E1.h[i]? = some ob := by
          rw [← hE1]
          show (markRo E.h (slsL args))[i]? = _
          rw [markRo_get, if_neg hns]; exact ho
        have hni : i ∉ σ := fun hm => by
          rcases hgood i hm with ⟨p, hp⟩ | hp
          · rw [hι1, hi] at hp; cases hp
          · rw [h1i] at hp; exact hd (Option.some.inj hp)
        obtain ⟨m1, m2⟩ := hA i hil hni
        exact ⟨m2.trans hi, m1.trans h1i⟩
      · obtain ⟨m1, _⟩ := hA i hil hi
        show (hh[i]?).map roO = _
        rw [m1, ← hE1]
        show ((markRo E.h (slsL args))[i]?).map roO = _
        rw [markRo_get]
        split
        · rw [Option.map_map]; congr 1; funext ob; exact roO_roO ob
        · rfl
    · cases h
  · cases h
end Go.Proofs.YthihinlamlamhaaE
