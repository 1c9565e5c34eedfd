/- A region that draws its order. -/
import Derived.Test.YthihinlamlamhaaEvS3
namespace Go.Proofs.YthihinlamlamhaaE
open Go
set_option linter.unusedSimpArgs false
set_option linter.unusedVariables false

def isD (listed : Array Bool) (i : Nat) : Bool := listed.getD i false

theorem callA_out {F : CallF} {h h' : List AObj} {g : FuncId} {args : List AV} {v : AV} (hc : callA F h g args = some (v, h')) {i : Nat} (hi : i ∉ sig h args) (hil : i < h.length) : (h'[i]?).map roO = (h[i]?).map roO := by
  unfold callA at hc
  split at hc
  · split at hc
    · cases hc
      have hlen : i < (setMany (heapF h args) (sig h args) ((‹List AObj›.take (sig h args).length).map (mapO (backTo h.length (sig h args) ‹List AObj›.length)))).length := by
        rw [setMany_len]; unfold heapF; rw [markRo_len]; exact hil
      rw [List.getElem?_append, if_pos hlen, setMany_out _ _ _ _ hi]
      unfold heapF
      rw [markRo_get]
      split
      · rw [Option.map_map]; congr 1; funext ob; exact roO_roO ob
      · rfl
    · cases hc
  · cases hc

theorem wrA_out {C : Ctx} {t : List AV} {h h' : List AObj} {o : Oper} {v : AV} (hw : wrA C (ev t) h o = some (v, h')) {i : Nat} (hi : i ∉ touched C (ev t) h o) (hil : i < h.length) : (h'[i]?).map roO = (h[i]?).map roO := by
  unfold wrA at hw
  split at hw
  · rename_i ty p x hop
    rw [Option.map_eq_some_iff] at hw
    obtain ⟨h2, hs, he⟩ := hw
    cases he
    obtain ⟨q, ob, ob', hp, ho, hd, rfl⟩ := storeA_out hs
    have hq : touched C (ev t) h o = [q] := by
      unfold touched
      rw [hop]
      rcases hp with hp | ⟨_, hp⟩ | ⟨_, _, hp⟩ <;> simp [hp]
    rw [hq] at hi
    rw [List.getElem?_set, if_neg (fun e => hi (by simp [e]))]
  · rename_i it hop
    have hshape : ∃ q, ev t it = .ptr q 0 ∧ ∀ i, i ≠ q → h'[i]? = h[i]? := by
      unfold nextA at hw
      split at hw
      · rename_i q hq
        split at hw
        · split at hw
          · cases hw; exact ⟨q, hq, fun i hi => by rw [List.getElem?_set, if_neg (Ne.symm hi)]⟩
          · cases hw; exact ⟨q, hq, fun i _ => rfl⟩
        · cases hw
      · cases hw
    obtain ⟨q, hq, hout⟩ := hshape
    have htc : touched C (ev t) h o = [q] := by unfold touched; rw [hop]; simp [hq]
    rw [htc] at hi
    rw [hout i (fun e => hi (by simp [e]))]
  · rename_i args tys hop
    split at hw
    · rename_i x y hl
      have htc : touched C (ev t) h o = (match ev t x with | .sl b _ _ => [b] | _ => []) := by unfold touched; rw [hop]; simp only [hl]; cases ev t x <;> rfl
      rw [htc] at hi
      unfold appendA at hw
      split at hw
      · split at hw
        · split at hw
          · cases hw
          · split at hw
            · split at hw
              · split at hw
                · split at hw
                  · split at hw
                    · cases hw; rfl
                    · split at hw
                      · cases hw; rw [List.getElem?_append, if_pos hil]
                      · cases hw
                  · rename_i q len hq
                    split at hw
                    · split at hw
                      · cases hw
                        simp only [hq] at hi
                        rw [List.getElem?_append, if_pos (by simpa using hil), List.getElem?_set, if_neg (fun e => hi (by simp [e]))]
                      · cases hw
                    · cases hw
                  · cases hw
                · cases hw
              · cases hw
            · cases hw
        · cases hw
      · cases hw
    · cases hw
  · cases hw
  · split at hw
    · rename_i g args hca
      split at hw
      · have htc : touched C (ev t) h o = sig h args := by
          unfold touched
          unfold calleeA at hca
          split at hca
          · rename_i f as tys hop
            simp only [hop]
            unfold calleeA
            simp only
            rw [hca]
          · rename_i r name as tys hop
            simp only [hop]
            unfold calleeA
            simp only
            rw [hca]
          · cases hca
        rw [htc] at hi
        exact callA_out hw hi hil
      · cases hw
    · cases hw

theorem wrA_len {C : Ctx} {ρ : Operand → AV} {h h' : List AObj} {o : Oper} {v : AV} (hw : wrA C ρ h o = some (v, h')) : h.length ≤ h'.length := by
  unfold wrA at hw
  split at hw
  · rw [Option.map_eq_some_iff] at hw
    obtain ⟨h2, hs, he⟩ := hw
    cases he
    obtain ⟨q, ob, ob', hp, ho, hd, rfl⟩ := storeA_out hs
    simp
  · unfold nextA at hw
    split at hw
    · split at hw
      · split at hw
        · cases hw; simp
        · cases hw; exact Nat.le_refl _
      · cases hw
    · cases hw
  · split at hw
    · unfold appendA at hw
      split at hw
      · split at hw
        · split at hw
          · cases hw
          · split at hw
            · split at hw
              · split at hw
                · split at hw
                  · split at hw
                    · cases hw; exact Nat.le_refl _
                    · split at hw
                      · cases hw; simp
                      · cases hw
                  · split at hw
                    · split at hw
                      · cases hw; simp
                      · cases hw
                    · cases hw
                  · cases hw
                · cases hw
              · cases hw
            · cases hw
        · cases hw
      · cases hw
    · cases hw
  · cases hw
  · split at hw
    · split at hw
      · unfold callA at hw
        split at hw
        · split at hw
          · cases hw
            rw [List.length_append, setMany_len]
            unfold heapF
            rw [markRo_len]
            omega
          · cases hw
        · cases hw
      · cases hw
    · cases hw

theorem wantedA_congr {ops : Array Oper} {t t' : List AV} {o : Oper} (h : ∀ x : Nat, x ∈ o.looksAt ops → t[x]? = t'[x]?) : wantedA ops t o = wantedA ops t' o := by
  unfold wantedA
  cases hg : o.guard with
  | none => rfl
  | some p =>
    obtain ⟨j, want⟩ := p
    simp only
    cases hd : (ops[j]?).bind (·.dst) with
    | none => rfl
    | some d =>
      simp only
      rw [h d (by unfold Oper.looksAt; rw [hg]; simp [hd])]
theorem ev_congr {ops : Array Oper} {t t' : List AV} {o : Oper} (h : ∀ x : Nat, x ∈ o.looksAt ops → t[x]? = t'[x]?) : ∀ x ∈ o.op.operands, ev t x = ev t' x := by
  intro x hx
  cases x with
  | tmp i =>
    simp only [ev, List.getD_eq_getElem?_getD]
    rw [h i (List.mem_append_left _ (List.mem_filterMap.2 ⟨.tmp i, by simpa using hx, rfl⟩))]
  | _ => rfl

section
variable {C : Ctx} {E0 : En} {ops : Array Oper} {c : List Nat} {St : Nat → S}

structure DI (E0 : En) (ops : Array Oper) (c : List Nat) (St : Nat → S) (listed : Array Bool) (ι : Nat → Option (Nat × Nat)) (m : Nat) (a : Act) (w : World) : Prop where
  size : listed.size = ops.size
  up : Up ops (isD listed)
  mn : m ≤ c.length
  w1 : ∀ (p i : Nat), p < m → c[p]? = some i → isWr ops i = true → isD listed i = true
  w2 : ∀ (p i : Nat), c[p]? = some i → isD listed i = true → p < m
  w3 : m = c.length ∨ ∃ i, c[m]? = some i ∧ isWr ops i = true
  sim : Sim ⟨ι, (St m).h, w, E0.X⟩
  ext : Ext E0 ⟨ι, (St m).h, w, E0.X⟩
  wd : Wd E0.w w
  df : a.defers = []
  slots : VL ⟨ι, (St m).h, w, E0.X⟩ ((List.range (St 0).t.length).map (slotV ops c St (isD listed) c.length)) a.tmps.toList
  holes : ∀ (k i : Nat), k < m → c[k]? = some i → isD listed i = false → isWr ops i = false → (St k).h.length < (St (k + 1)).h.length →
    ι (St k).h.length = none ∧ ∃ ob, (St (k + 1)).h[(St k).h.length]? = some ob ∧ ob ≠ .dead ∧ (St m).h[(St k).h.length]? = some ob

theorem isD_set {listed : Array Bool} {i : Nat} (hi : i < listed.size) (j : Nat) : isD (listed.setIfInBounds i true) j = (isD listed j || j == i) := by
  unfold isD
  rw [Array.getD_eq_getD_getElem?, Array.getD_eq_getD_getElem?, Array.getElem?_setIfInBounds]
  by_cases hij : i = j
  · subst hij; rw [if_pos rfl, if_pos hi]; simp
  · rw [if_neg hij]
    have : (j == i) = false := by simpa using Ne.symm hij
    rw [this, Bool.or_false]

theorem wr_iff {ops : Array Oper} {i : Nat} {o : Oper} (ho : ops[i]? = some o) : isWr ops i = isWriter o := by
  unfold isWr; rw [ho]; rfl

/-- What a step of the canonical run does to the objects. -/
theorem st_nw (tr : Trace C ops c St) {k i : Nat} {o : Oper} (hk : c[k]? = some i) (ho : ops[i]? = some o) (hw : isWriter o = false) : ∃ l, (St (k + 1)).h = (St k).h ++ l ∧ ∀ ob ∈ l, ob ≠ .dead := by
  obtain ⟨o', b, ho', hb, hs⟩ := tr.step k i hk
  rw [ho] at ho'; cases ho'
  unfold stepA at hs
  rw [ho] at hs
  simp only [hb] at hs
  split at hs
  · rw [Option.map_eq_some_iff] at hs
    obtain ⟨⟨v, h1⟩, h2, h3⟩ := hs
    unfold opA at h2
    rw [if_neg (by rw [hw]; simp), Option.map_eq_some_iff] at h2
    obtain ⟨⟨u, ob⟩, h4, h5⟩ := h2
    cases h5
    refine ⟨ob.toList, by rw [← h3, put_h], fun x hx => ?_⟩
    cases ob with
    | none => simp at hx
    | some ob => simp at hx; subst hx; exact nwA_alive h4
  · exact ⟨[], by rw [← Option.some.inj hs, put_h]; simp, by simp⟩
theorem st_look (tr : Trace C ops c St) {k i b : Nat} {o : Oper} (hk : c[k]? = some i) (ho : ops[i]? = some o) (hb : b < (St k).h.length)
    (ht : isWriter o = true → wantedA ops (St k).t o = some true → b ∉ touched C (ev (St k).t) (St k).h o) : ((St (k + 1)).h[b]?).map roO = ((St k).h[b]?).map roO ∧ (St k).h.length ≤ (St (k + 1)).h.length := by
  cases hw : isWriter o with
  | false =>
    obtain ⟨l, h1, _⟩ := st_nw tr hk ho hw
    rw [h1, List.getElem?_append, if_pos hb]
    exact ⟨rfl, by simp⟩
  | true =>
    obtain ⟨o', bb, ho', hbb, hs⟩ := tr.step k i hk
    rw [ho] at ho'; cases ho'
    unfold stepA at hs
    rw [ho] at hs
    simp only [hbb] at hs
    split at hs
    · rename_i hbt
      rw [Option.map_eq_some_iff] at hs
      obtain ⟨⟨v, h1⟩, h2, h3⟩ := hs
      unfold opA at h2
      rw [if_pos hw] at h2
      rw [← h3, put_h]
      have hout := wrA_out h2 (ht hw (by rw [hbb, hbt])) hb
      exact ⟨hout, wrA_len h2⟩
    · rw [← Option.some.inj hs, put_h]
      exact ⟨rfl, Nat.le_refl _⟩

theorem st_look_len (tr : Trace C ops c St) {k i : Nat} (hk : c[k]? = some i) : (St k).h.length ≤ (St (k + 1)).h.length := by
  obtain ⟨o, b, ho, hb, hs⟩ := tr.step k i hk
  cases hw : isWriter o with
  | false => obtain ⟨l, h1, _⟩ := st_nw tr hk ho hw; rw [h1]; simp
  | true =>
    unfold stepA at hs
    rw [ho] at hs
    simp only [hb] at hs
    split at hs
    · rw [Option.map_eq_some_iff] at hs
      obtain ⟨⟨v, h1⟩, h2, h3⟩ := hs
      unfold opA at h2
      rw [if_pos hw] at h2
      rw [← h3, put_h]
      exact wrA_len h2
    · rw [← Option.some.inj hs, put_h]
      exact Nat.le_refl _

/-- From position k to m: what no writer between touches looks as it did. -/
theorem look_to (tr : Trace C ops c St) {k b : Nat} (hb : b < (St k).h.length) : ∀ m, k ≤ m → m ≤ c.length →
    (∀ (p i : Nat) (o : Oper), k ≤ p → p < m → c[p]? = some i → ops[i]? = some o → isWriter o = true → wantedA ops (St p).t o = some true → b ∉ touched C (ev (St p).t) (St p).h o) →
    ((St m).h[b]?).map roO = ((St k).h[b]?).map roO ∧ (St k).h.length ≤ (St m).h.length
  | 0, hkm, _, _ => by
    have : k = 0 := by omega
    subst this
    exact ⟨rfl, Nat.le_refl _⟩
  | m + 1, hkm, hmc, ht => by
    by_cases he : k = m + 1
    · subst he; exact ⟨rfl, Nat.le_refl _⟩
    · obtain ⟨h1, h2⟩ := look_to tr hb m (by omega) (by omega) fun p i o a1 a2 => ht p i o a1 (by omega)
      have hc : c[m]? = some (c[m]'(by omega)) := List.getElem?_eq_getElem (by omega)
      obtain ⟨o, bb, ho, hbb, hs⟩ := tr.step m _ hc
      obtain ⟨h3, h4⟩ := st_look tr hc ho (b := b) (by omega) fun hw hwt => ht m _ o (by omega) (by omega) hc ho hw hwt
      exact ⟨h3.trans h1, by omega⟩
/-- From position k to m, with no writer between: objects are only added. -/
theorem app_to (tr : Trace C ops c St) {k : Nat} : ∀ m, k ≤ m → m ≤ c.length → (∀ (p i : Nat), k ≤ p → p < m → c[p]? = some i → isWr ops i = false) → ∃ l, (St m).h = (St k).h ++ l
  | 0, hkm, _, _ => by
    have : k = 0 := by omega
    subst this
    exact ⟨[], by simp⟩
  | m + 1, hkm, hmc, hw => by
    by_cases he : k = m + 1
    · subst he; exact ⟨[], by simp⟩
    · obtain ⟨l, h1⟩ := app_to tr m (by omega) (by omega) fun p i a1 a2 => hw p i a1 (by omega)
      have hc : c[m]? = some (c[m]'(by omega)) := List.getElem?_eq_getElem (by omega)
      obtain ⟨o, bb, ho, hbb, hs⟩ := tr.step m _ hc
      have hnw := hw m _ (by omega) (by omega) hc
      rw [wr_iff ho] at hnw
      obtain ⟨l', h2, _⟩ := st_nw tr hc ho hnw
      exact ⟨l ++ l', by rw [h2, h1, List.append_assoc]⟩

variable {Q : Exit → Act → World → Prop}

/-- Objects that do not stand anywhere yet. -/
theorem pad_ok {ι : Nat → Option (Nat × Nat)} {h l : List AObj} {w : World} {X : Nat → Prop} (s : Sim ⟨ι, h, w, X⟩) : Sim ⟨ι, h ++ l, w, X⟩ ∧ Ext ⟨ι, h, w, X⟩ ⟨ι, h ++ l, w, X⟩ := by
  have hold : ∀ i b c, ι i = some (b, c) → (h ++ l)[i]? = h[i]? := fun i b c hi => by
    rw [List.getElem?_append, if_pos (s.lt i b c hi).1]
  have x : Ext ⟨ι, h, w, X⟩ ⟨ι, h ++ l, w, X⟩ := by
    refine ⟨fun o ob ho => ⟨ob, ?_, .inr ⟨rfl, fun p hp => hp, fun _ _ _ _ _ _ _ _ e1 e2 => (by rw [e1] at e2; cases e2; rfl)⟩⟩, fun b hb => ⟨⟨hb.1, fun o c ob h1 h2 => hb.2 o c ob h1 ((hold o b c h1).symm.trans h2)⟩, rfl⟩, fun j b c hj => .inr ⟨j, c, hj⟩, Nat.le_refl _, rfl⟩
    have ho : h[o]? = some ob := ho
    show (h ++ l)[o]? = some ob
    rw [List.getElem?_append, if_pos (List.getElem?_eq_some_iff.1 ho).1]; exact ho
  refine ⟨⟨s.inj, fun i b c hi => ?_, fun i b c ob hi ho => ?_, s.nx, s.xlt⟩, x⟩
  · have := s.lt i b c hi
    exact ⟨by show i < (h ++ l).length; rw [List.length_append]; exact Nat.lt_of_lt_of_le this.1 (Nat.le_add_right _ _), this.2⟩
  · exact OR.ext x rfl ob (s.obj i b c ob hi ((hold i b c hi).symm.trans ho))

section
variable (cn : Canon ops c) (hall : ∀ i, i < ops.size → i ∈ c) (tm : tmpOk ops (Region.before ops) = true) (tr : Trace C ops c St) {listed : Array Bool} {ι : Nat → Option (Nat × Nat)} {m : Nat} {a : Act} {w : World}
  (di : DI E0 ops c St listed ι m a w) {i k : Nat} {o : Oper} (hk : c[k]? = some i) (ho : ops[i]? = some o) (hni : isD listed i = false) (hr : ∀ e ∈ o.after, Region.binds .any e = true → isD listed e.on = true)

theorem up_set (hil : i < listed.size) (di : DI E0 ops c St listed ι m a w) (ho : ops[i]? = some o) (hr : ∀ e ∈ o.after, Region.binds .any e = true → isD listed e.on = true) : Up ops (isD (listed.setIfInBounds i true)) := by
  refine ⟨fun j hj => ?_, fun j o' hj ho' e he hb => ?_⟩
  · rw [isD_set hil, Bool.or_eq_true] at hj
    rcases hj with hj | hj
    · exact di.up.lt j hj
    · have : j = i := by simpa using hj
      subst this; rw [← di.size]; exact hil
  · rw [isD_set hil, Bool.or_eq_true] at hj ⊢
    rcases hj with hj | hj
    · exact .inl (di.up.cl j o' hj ho' e he hb)
    · have : j = i := by simpa using hj
      subst this
      rw [ho] at ho'; cases ho'
      exact .inl (hr e he hb)

include cn tm tr di hk ho hni hr in
theorem read_ok : ∀ x : Nat, x ∈ o.looksAt ops → ((List.range (St 0).t.length).map (slotV ops c St (isD listed) c.length))[x]? = (St k).t[x]? := by
  intro x hx
  have hkl : k < c.length := (List.getElem?_eq_some_iff.1 hk).1
  have hlen := st_len tr k (by omega)
  rw [List.getElem?_map]
  by_cases hxl : x < (St 0).t.length
  · rw [List.getElem?_range hxl]
    simp only [Option.map_some]
    rw [slot_read cn tm tr di.up hk ho hni hr hx, List.getD_eq_getElem?_getD, List.getElem?_eq_getElem (l := (St k).t) (i := x) (by omega)]
    rfl
  · rw [List.getElem?_eq_none (l := List.range _) (i := x) (by simp; omega), List.getElem?_eq_none (l := (St k).t) (i := x) (by omega)]
    rfl

include cn tm di hk ho hni in
/-- One more has come up: the slots. -/
theorem slots_set {E' : En} {v : AV} {cv : Value} (hv : ∀ t, o.dst = some t → t < (St 0).t.length → (St (k + 1)).t.getD t .undef = v) (hil : i < listed.size)
    (hold : VL E' ((List.range (St 0).t.length).map (slotV ops c St (isD listed) c.length)) a.tmps.toList) (vr : VR E' v cv) :
    VL E' ((List.range (St 0).t.length).map (slotV ops c St (isD (listed.setIfInBounds i true)) c.length)) (a.put o.dst cv).tmps.toList := by
  have he : (List.range (St 0).t.length).map (slotV ops c St (isD (listed.setIfInBounds i true)) c.length) = ((⟨(List.range (St 0).t.length).map (slotV ops c St (isD listed) c.length), []⟩ : S).put o.dst v []).t := by
    apply List.ext_getElem?
    intro x
    rw [List.getElem?_map]
    by_cases hxl : x < (St 0).t.length
    · rw [List.getElem?_range hxl]
      simp only [Option.map_some]
      rw [slot_write cn tm di.up hk ho hni (isD_set hil) x]
      cases hd : o.dst with
      | none =>
        rw [if_neg (by simp)]
        show _ = ((List.range (St 0).t.length).map (slotV ops c St (isD listed) c.length))[x]?
        rw [List.getElem?_map, List.getElem?_range hxl]; rfl
      | some t =>
        show _ = (((List.range (St 0).t.length).map (slotV ops c St (isD listed) c.length)).set t v)[x]?
        rw [List.getElem?_set]
        by_cases htx : t = x
        · subst htx
          rw [if_pos rfl, if_pos rfl, if_pos (by simpa using hxl), hv t hd hxl]
        · rw [if_neg (fun e => htx (Option.some.inj e)), if_neg htx, List.getElem?_map, List.getElem?_range hxl]; rfl
    · rw [List.getElem?_eq_none (by simp; omega)]
      symm
      rw [Option.map_none]
      apply List.getElem?_eq_none
      rw [put_len]
      simp; omega
  rw [he]
  exact put_ok hold o.dst vr []

include cn hall tm tr di ho hni hr in
/-- One that writes nothing comes up. -/
theorem di_nw (hw : isWriter o = false) {K : Act → World → Prop}
    (hK : ∀ ι' a' w', DI E0 ops c St (listed.setIfInBounds i true) ι' m a' w' → K a' w') : wpOp C.P ops Q i K a w := by
  have hisz : i < ops.size := (Array.getElem?_eq_some_iff.1 ho).1
  have hil : i < listed.size := by rw [di.size]; exact hisz
  obtain ⟨k, hk⟩ := List.getElem?_of_mem (hall i hisz)
  have hkl : k < c.length := (List.getElem?_eq_some_iff.1 hk).1
  have hkm : k < m := by
    rcases Nat.lt_or_ge k m with h | h
    · exact h
    · exfalso
      rcases di.w3 with h1 | ⟨j, h1, h2⟩
      · omega
      · have hne : m ≠ k := fun e => by
          subst e
          rw [h1] at hk; cases hk
          rw [wr_iff ho, hw] at h2; cases h2
        obtain ⟨p', j', e1, e2, e3, e4, e5⟩ := cn.wr k i m j hk (by omega) h1 h2
        have := di.w2 p' j' e3 (di.up.ready ho hr e5)
        omega
  obtain ⟨o', b, ho', hb, hs⟩ := tr.step k i hk
  rw [ho] at ho'; cases ho'
  have hread := read_ok cn tm tr di hk ho hni hr
  have hwant : Region.wanted o (yielded ops a.tmps) = b := wanted_ok di.slots (by rw [wantedA_congr hread]; exact hb)
  unfold stepA at hs
  rw [ho] at hs
  simp only [hb] at hs
  unfold wpOp
  rw [ho]
  simp only
  rw [hwant]
  -- what is kept of the others
  have rest : ∀ (ι' : Nat → Option (Nat × Nat)) (v : AV) (cv : Value) (w' : World), (∀ t, o.dst = some t → t < (St 0).t.length → (St (k + 1)).t.getD t .undef = v) → Sim ⟨ι', (St m).h, w', E0.X⟩ → Ext ⟨ι, (St m).h, w, E0.X⟩ ⟨ι', (St m).h, w', E0.X⟩ → Wd w w' → VR ⟨ι', (St m).h, w', E0.X⟩ v cv →
      (∀ j, j ≠ (St k).h.length → ι' j = ι j) → ((St k).h.length < (St (k + 1)).h.length ∨ ∀ j, ι' j = ι j) → DI E0 ops c St (listed.setIfInBounds i true) ι' m (a.put o.dst cv) w' := by
    intro ι' v cv w' hv s' x' wd' vr hι hgrow
    refine ⟨by simpa using di.size, up_set hil di ho hr, di.mn, fun p j hp hj hwj => ?_, fun p j hj hd => ?_, di.w3, s', di.ext.trans x', di.wd.trans wd', by rw [put_defers]; exact di.df, slots_set cn tm di hk ho hni hv hil (VL.ext x' _ _ di.slots) vr, fun k' j hk' hj hd hwj hg => ?_⟩
    · rw [isD_set hil, di.w1 p j hp hj hwj]; rfl
    · rw [isD_set hil, Bool.or_eq_true] at hd
      rcases hd with hd | hd
      · exact di.w2 p j hj hd
      · have : j = i := by simpa using hd
        subst this
        have := cn.inj p k j hj hk
        omega
    · rw [isD_set hil, Bool.or_eq_false_iff] at hd
      obtain ⟨h1, h2⟩ := di.holes k' j hk' hj hd.1 hwj hg
      have hne : k' ≠ k := fun e => by subst e; rw [hj] at hk; cases hk; simp at hd
      refine ⟨?_, h2⟩
      rcases hgrow with hgr | hsame
      · rw [hι _ fun e => ?_]
        · exact h1
        · -- two that make something make it at different numbers
          rcases Nat.lt_or_gt_of_ne hne with hlt | hgt
          · have hmono : ∀ q, k' + 1 ≤ q → q ≤ c.length → (St (k' + 1)).h.length ≤ (St q).h.length := by
              intro q
              induction q with
              | zero => intro h; omega
              | succ q ih =>
                intro h1 h2
                by_cases he : k' + 1 = q + 1
                · rw [he]; exact Nat.le_refl _
                · exact Nat.le_trans (ih (by omega) (by omega)) (st_look_len tr (List.getElem?_eq_getElem (by omega)))
            have := hmono k (by omega) (by omega)
            omega
          · have hmono : ∀ q, k + 1 ≤ q → q ≤ c.length → (St (k + 1)).h.length ≤ (St q).h.length := by
              intro q
              induction q with
              | zero => intro h; omega
              | succ q ih =>
                intro h1 h2
                by_cases he : k + 1 = q + 1
                · rw [he]; exact Nat.le_refl _
                · exact Nat.le_trans (ih (by omega) (by omega)) (st_look_len tr (List.getElem?_eq_getElem (by omega)))
            have hk'c := (List.getElem?_eq_some_iff.1 hj).1
            have := hmono k' (by omega) (by omega)
            omega
      · rw [hsame]; exact h1
  split at hs
  · rename_i hbt
    rw [Option.map_eq_some_iff] at hs
    obtain ⟨⟨v, h1⟩, h2, h3⟩ := hs
    unfold opA at h2
    rw [if_neg (by rw [hw]; simp), Option.map_eq_some_iff] at h2
    obtain ⟨⟨u, ob⟩, h4, h5⟩ := h2
    cases h5
    rw [hbt, if_pos rfl]
    left
    have hdst : ∀ t, o.dst = some t → t < (St 0).t.length → (St (k + 1)).t.getD t .undef = u := fun t ht hlt => by
      rw [← h3]
      have hl := st_len tr k (by omega)
      unfold S.put
      rw [ht]
      show ((St k).t.set t u).getD t .undef = u
      rw [List.getD_eq_getElem?_getD, List.getElem?_set, if_pos rfl, if_pos (by rw [hl]; exact hlt)]
      rfl
    have hh1 : (St (k + 1)).h = (St k).h ++ ob.toList := by rw [← h3, put_h]
    -- the same answer at the objects of now
    have hnw : nwA C.P (ev ((List.range (St 0).t.length).map (slotV ops c St (isD listed) c.length))) (St m).h (St k).h.length o = some (u, ob) := by
      rw [nwA_congr (ev_congr hread), ← h4]
      refine (nwA_local fun q hq => ?_).symm
      have hqlt := nwA_reads h4 hq
      refine ((look_to tr hqlt m (by omega) di.mn fun p j oj h6 h7 h8 h9 h10 h11 => ?_).1).symm
      have hpk : p ≠ k := fun e => by subst e; rw [hk] at h8; cases h8; rw [ho] at h9; cases h9; rw [hw] at h10; cases h10
      rcases tr.ok p j oj h8 h9 h11 h10 k i o q (by omega) hk ho (by rw [hb, hbt]) hw hq with h12 | h12
      · have hdj := di.w1 p j h7 h8 (by rw [wr_iff h9]; exact h10)
        have := di.up.bit hdj h12
        rw [hni] at this; cases this
      · exact h12
    have hdo := nw_ok (P := C.P) (E := ⟨ι, (St m).h, w, E0.X⟩) di.sim di.slots hnw
    unfold Oper.wp
    cases ob with
    | none =>
      obtain ⟨cv, hrun, hv⟩ := hdo
      have hrun : (execOp a.eval o).run C.P w = .ok (.value cv) w := hrun
      rw [hrun, Oper.upon_value]
      exact hK ι _ _ (rest ι u cv w hdst di.sim (Ext.refl _) (Wd.refl _) hv (fun _ _ => rfl) (.inr fun _ => rfl))
    | some ob =>
      obtain ⟨cv, w', hrun, hn⟩ := hdo
      have hrun : (execOp a.eval o).run C.P w = .ok (.value cv) w' := hrun
      rw [hrun, Oper.upon_value]
      have hgrow : (St k).h.length < (St (k + 1)).h.length := by rw [hh1]; simp
      obtain ⟨hfree, ob2, hob2, _, hobm⟩ := di.holes k i hkm hk hni (by rw [wr_iff ho]; exact hw) hgrow
      have : ob2 = ob := by rw [hh1] at hob2; simpa using hob2.symm
      subst this
      obtain ⟨c', g1, g2, g3, g4⟩ := new_ok di.sim hn (St m).h (fun _ _ => rfl) hobm hfree (.inr hobm)
      exact hK _ _ _ (rest _ u cv w' hdst g1 g2 g3 g4 (fun j hj => by show upd ι _ _ j = ι j; unfold upd; rw [if_neg hj]) (.inl hgrow))
  · rename_i hbf
    rw [if_neg hbf]
    have hst := Option.some.inj hs
    refine hK ι _ _ (rest ι .undef undef w (fun t ht hlt => ?_) di.sim (Ext.refl _) (Wd.refl _) (by simp [AV.undef, undef, VR, VL]) (fun _ _ => rfl) (.inr fun _ => rfl))
    rw [← hst]
    have hl := st_len tr k (by omega)
    unfold S.put
    rw [ht]
    show ((St k).t.set t .undef).getD t .undef = .undef
    rw [List.getD_eq_getElem?_getD, List.getElem?_set, if_pos rfl, if_pos (by rw [hl]; exact hlt)]
    rfl
end

/-- The next writer from position k on. -/
theorem next_wr (ops : Array Oper) (c : List Nat) : ∀ (n k : Nat), c.length - k = n → k ≤ c.length → ∃ m, k ≤ m ∧ m ≤ c.length ∧ (∀ (p i : Nat), k ≤ p → p < m → c[p]? = some i → isWr ops i = false) ∧ (m = c.length ∨ ∃ i, c[m]? = some i ∧ isWr ops i = true)
  | 0, k, h, hk => ⟨k, Nat.le_refl _, hk, fun p i h1 h2 => by omega, .inl (by omega)⟩
  | n + 1, k, h, hk => by
    have hc : c[k]? = some (c[k]'(by omega)) := List.getElem?_eq_getElem (by omega)
    cases hw : isWr ops (c[k]'(by omega)) with
    | true => exact ⟨k, Nat.le_refl _, hk, fun p i h1 h2 => by omega, .inr ⟨_, hc, hw⟩⟩
    | false =>
      obtain ⟨m, h1, h2, h3, h4⟩ := next_wr ops c n (k + 1) (by omega) (by omega)
      refine ⟨m, by omega, h2, fun p i h5 h6 h7 => ?_, h4⟩
      by_cases he : p = k
      · subst he; rw [hc] at h7; cases h7; exact hw
      · exact h3 p i (by omega) h6 h7

/-- From a state at position k (with what is before it) to the next writer. -/
theorem pad_to (tr : Trace C ops c St) {k m : Nat} (hkm : k ≤ m) (hmc : m ≤ c.length) (hnw : ∀ (p i : Nat), k ≤ p → p < m → c[p]? = some i → isWr ops i = false) {ι : Nat → Option (Nat × Nat)} {w : World} (s : Sim ⟨ι, (St k).h, w, E0.X⟩) :
    Sim ⟨ι, (St m).h, w, E0.X⟩ ∧ Ext ⟨ι, (St k).h, w, E0.X⟩ ⟨ι, (St m).h, w, E0.X⟩ ∧
    (∀ (p i : Nat), k ≤ p → p < m → c[p]? = some i → (St p).h.length < (St (p + 1)).h.length → ι (St p).h.length = none ∧ ∃ ob, (St (p + 1)).h[(St p).h.length]? = some ob ∧ ob ≠ .dead ∧ (St m).h[(St p).h.length]? = some ob) := by
  obtain ⟨l, hl⟩ := app_to tr m hkm hmc hnw
  have hp := pad_ok (l := l) s
  rw [← hl] at hp
  refine ⟨hp.1, hp.2, fun p i h1 h2 h3 hg => ?_⟩
  obtain ⟨o, b, ho, hb, hs⟩ := tr.step p i h3
  have hnwp := hnw p i h1 h2 h3
  rw [wr_iff ho] at hnwp
  obtain ⟨l1, e1, e2⟩ := st_nw tr h3 ho hnwp
  obtain ⟨l0, e0⟩ := app_to tr p h1 (by omega) fun q j h4 h5 => hnw q j h4 (by omega)
  obtain ⟨l2, e3⟩ := app_to tr m (show p + 1 ≤ m by omega) hmc fun q j h4 h5 => hnw q j (by omega) h5
  obtain ⟨ob, hget⟩ : ∃ ob, (St (p + 1)).h[(St p).h.length]? = some ob := ⟨_, List.getElem?_eq_getElem hg⟩
  refine ⟨?_, ob, hget, ?_, ?_⟩
  · cases hc : ι (St p).h.length with
    | none => rfl
    | some q =>
      have := (s.lt _ q.1 q.2 hc).1
      have h5 : (St p).h.length < (St k).h.length := this
      rw [e0, List.length_append] at h5
      omega
  · refine e2 _ ?_
    rw [e1, List.getElem?_append, if_neg (by omega), Nat.sub_self] at hget
    exact List.mem_of_getElem? hget
  · rw [e3, List.getElem?_append, if_pos hg]; exact hget

section
variable (cn : Canon ops c) (hall : ∀ i, i < ops.size → i ∈ c) (tm : tmpOk ops (Region.before ops) = true) (tr : Trace C ops c St) {listed : Array Bool} {ι : Nat → Option (Nat × Nat)} {m : Nat} {a : Act} {w : World}
  (di : DI E0 ops c St listed ι m a w) {i : Nat} {o : Oper} (ho : ops[i]? = some o) (hni : isD listed i = false) (hr : ∀ e ∈ o.after, Region.binds .any e = true → isD listed e.on = true)
include cn hall tm tr di ho hni hr

/-- A writer comes up. -/
theorem di_wr (hP : okProg C.P = true) (hF : SoundF C.P C.F) (hw : isWriter o = true) {K : Act → World → Prop}
    (hK : ∀ ι' m' a' w', DI E0 ops c St (listed.setIfInBounds i true) ι' m' a' w' → K a' w') : wpOp C.P ops Q i K a w := by
  have hisz : i < ops.size := (Array.getElem?_eq_some_iff.1 ho).1
  have hil : i < listed.size := by rw [di.size]; exact hisz
  obtain ⟨k, hk⟩ := List.getElem?_of_mem (hall i hisz)
  have hkl : k < c.length := (List.getElem?_eq_some_iff.1 hk).1
  have hkm : k = m := by
    rcases Nat.lt_trichotomy k m with h | h | h
    · have := di.w1 k i h hk (by rw [wr_iff ho]; exact hw)
      rw [hni] at this; cases this
    · exact h
    · exfalso
      rcases di.w3 with h1 | ⟨j, h1, h2⟩
      · omega
      · obtain ⟨p', j', e1, e2, e3, e4, e5⟩ := cn.wr k i m j hk h h1 h2
        have := di.w2 p' j' e3 (di.up.ready ho hr e5)
        omega
  subst hkm
  obtain ⟨o', b, ho', hb, hs⟩ := tr.step k i hk
  rw [ho] at ho'; cases ho'
  have hread := read_ok cn tm tr di hk ho hni hr
  have hwant : Region.wanted o (yielded ops a.tmps) = b := wanted_ok di.slots (by rw [wantedA_congr hread]; exact hb)
  obtain ⟨m, hkm, hmc, hnw, hm3⟩ := next_wr ops c _ (k + 1) rfl (by omega)
  unfold stepA at hs
  rw [ho] at hs
  simp only [hb] at hs
  unfold wpOp
  rw [ho]
  simp only
  rw [hwant]
  have rest : ∀ (ι' : Nat → Option (Nat × Nat)) (v : AV) (cv : Value) (w' : World), (∀ t, o.dst = some t → t < (St 0).t.length → (St (k + 1)).t.getD t .undef = v) → Sim ⟨ι', (St (k + 1)).h, w', E0.X⟩ → Ext ⟨ι, (St k).h, w, E0.X⟩ ⟨ι', (St (k + 1)).h, w', E0.X⟩ → Wd w w' → VR ⟨ι', (St (k + 1)).h, w', E0.X⟩ v cv →
      (∀ j ob, ι j = none → (St k).h[j]? = some ob → ob ≠ .dead → ι' j = none ∧ (St (k + 1)).h[j]? = some ob) → DI E0 ops c St (listed.setIfInBounds i true) ι' m (a.put o.dst cv) w' := by
    intro ι' v cv w' hv s' x' wd' vr hunt
    obtain ⟨s2, x2, hholes⟩ := pad_to (E0 := E0) tr hkm hmc hnw s'
    obtain ⟨l, hl⟩ := app_to tr m hkm hmc hnw
    refine ⟨by simpa using di.size, up_set hil di ho hr, hmc, fun p j hp hj hwj => ?_, fun p j hj hd => ?_, hm3, s2, (di.ext.trans x').trans x2, di.wd.trans wd', by rw [put_defers]; exact di.df,
      slots_set cn tm di hk ho hni hv hil (VL.ext (x'.trans x2) _ _ di.slots) (VR.ext x2 _ _ vr), fun k' j hk' hj hd hwj hg => ?_⟩
    · rw [isD_set hil]
      rcases Nat.lt_trichotomy p k with h | h | h
      · rw [di.w1 p j h hj hwj]; rfl
      · subst h; rw [hk] at hj; cases hj; simp
      · have := hnw p j (by omega) hp hj
        rw [hwj] at this; cases this
    · rw [isD_set hil, Bool.or_eq_true] at hd
      rcases hd with hd | hd
      · have := di.w2 p j hj hd; omega
      · have : j = i := by simpa using hd
        subst this
        have := cn.inj p k j hj hk
        omega
    · rw [isD_set hil, Bool.or_eq_false_iff] at hd
      rcases Nat.lt_trichotomy k' k with h | h | h
      · obtain ⟨h1, ob, h2, h3, h4⟩ := di.holes k' j h hj hd.1 hwj hg
        obtain ⟨g1, g2⟩ := hunt _ ob h1 h4 h3
        refine ⟨g1, ob, h2, h3, ?_⟩
        rw [hl, List.getElem?_append, if_pos (List.getElem?_eq_some_iff.1 g2).1]
        exact g2
      · subst h; rw [hk] at hj; cases hj
        rw [wr_iff ho, hw] at hwj; cases hwj
      · exact hholes k' j (by omega) hk' hj hg
  split at hs
  · rename_i hbt
    rw [Option.map_eq_some_iff] at hs
    obtain ⟨⟨v, h1⟩, h2, h3⟩ := hs
    unfold opA at h2
    rw [if_pos hw] at h2
    rw [hbt, if_pos rfl]
    left
    have hh1 : (St (k + 1)).h = h1 := by rw [← h3, put_h]
    have hdst : ∀ t, o.dst = some t → t < (St 0).t.length → (St (k + 1)).t.getD t .undef = v := fun t ht hlt => by
      rw [← h3]
      have hl := st_len tr k (by omega)
      unfold S.put
      rw [ht]
      show ((St k).t.set t v).getD t .undef = v
      rw [List.getD_eq_getElem?_getD, List.getElem?_set, if_pos rfl, if_pos (by rw [hl]; exact hlt)]
      rfl
    have hwr : wrA C (ev ((List.range (St 0).t.length).map (slotV ops c St (isD listed) c.length))) (St k).h o = some (v, h1) := by
      rw [wrA_congr (ev_congr hread)]; exact h2
    refine wr_ok (E := ⟨ι, (St k).h, w, E0.X⟩) hP hF di.sim di.slots hwr fun cv w' ι' af => ?_
    refine hK ι' m _ w' (rest ι' v cv w' hdst (by rw [hh1]; exact af.sim) (by rw [hh1]; exact af.ext) af.wd (by rw [hh1]; exact af.vr) (fun j ob hj hob hd => by rw [hh1]; exact af.unt j ob hj hob hd))
  · rename_i hbf
    rw [if_neg hbf]
    have hst := Option.some.inj hs
    have hh1 : (St (k + 1)).h = (St k).h := by rw [← hst, put_h]
    refine hK ι m _ w (rest ι .undef undef w (fun t ht hlt => ?_) (by rw [hh1]; exact di.sim) (by rw [hh1]; exact Ext.refl _) (Wd.refl _) (by simp [AV.undef, undef, VR, VL]) (fun j ob hj hob _ => by rw [hh1]; exact ⟨hj, hob⟩))
    rw [← hst]
    have hl := st_len tr k (by omega)
    unfold S.put
    rw [ht]
    show ((St k).t.set t .undef).getD t .undef = .undef
    rw [List.getD_eq_getElem?_getD, List.getElem?_set, if_pos rfl, if_pos (by rw [hl]; exact hlt)]
    rfl
end

/-- Whatever comes up. -/
theorem any_ok (hP : okProg C.P = true) (hF : SoundF C.P C.F) (cn : Canon ops c) (hall : ∀ i, i < ops.size → i ∈ c) (tm : tmpOk ops (Region.before ops) = true) (tr : Trace C ops c St)
    (hQ : ∀ a' w', Inv E0 (St c.length) a' w' → Q .normal a' w') : ∀ (fuel : Nat) {listed : Array Bool} {ι : Nat → Option (Nat × Nat)} {m : Nat} {a : Act} {w : World}, DI E0 ops c St listed ι m a w → listed.toList.count false ≤ fuel →
    wpAny C.P .any ops Q fuel listed a w := by
  have fin : ∀ {listed : Array Bool} {ι : Nat → Option (Nat × Nat)} {m : Nat} {a : Act} {w : World}, DI E0 ops c St listed ι m a w → Region.ready .any ops listed = [] → Q .normal a w := by
    intro listed ι m a w di hre
    have hD : ∀ (k i : Nat), c[k]? = some i → isD listed i = true := by
      intro k
      induction k using Nat.strongRecOn with
      | _ k ih =>
        intro i hk
        cases hd : isD listed i with
        | true => rfl
        | false =>
          exfalso
          have hi := cn.lt k i hk
          have ho : ops[i]? = some ops[i] := Array.getElem?_eq_getElem hi
          have : i ∈ Region.ready .any ops listed := mem_ready.2 ⟨by
            unfold isD at hd
            rw [Array.getD_eq_getD_getElem?] at hd ⊢
            have hlt : i < listed.size := by rw [di.size]; exact hi
            rw [Array.getElem?_eq_getElem hlt] at hd ⊢
            exact hd, ops[i], ho, fun e he hb => by
            have hbit : ((Region.before ops).getD i 0).testBit e.on = true := (before_bit ho e.on).2 ⟨e, he, hb, .inl rfl⟩
            obtain ⟨k', hk', hc'⟩ := cn.bf k i e.on hk hbit
            exact ih k' hk' e.on hc'⟩
          rw [hre] at this
          cases this
    have hm : m = c.length := by
      rcases di.w3 with h | ⟨i, h1, _⟩
      · exact h
      · have := di.w2 m i h1 (hD m i h1)
        omega
    subst hm
    refine hQ a w ⟨ι, di.sim, ?_, di.ext, di.wd, di.df⟩
    have he : (List.range (St 0).t.length).map (slotV ops c St (isD listed) c.length) = (St c.length).t := by
      apply List.ext_getElem?
      intro x
      have hlen := st_len tr c.length (Nat.le_refl _)
      rw [List.getElem?_map]
      by_cases hx : x < (St 0).t.length
      · rw [List.getElem?_range hx]
        simp only [Option.map_some]
        rw [slot_congr (d' := fun _ => true) c.length fun p i _ h2 _ => hD p i h2, slot_true tr x c.length (Nat.le_refl _), List.getD_eq_getElem?_getD, List.getElem?_eq_getElem (l := (St c.length).t) (i := x) (by omega)]
        rfl
      · rw [List.getElem?_eq_none (l := List.range _) (i := x) (by simp; omega), List.getElem?_eq_none (l := (St c.length).t) (i := x) (by omega)]
        rfl
    rw [← he]; exact di.slots
  intro fuel
  induction fuel with
  | zero =>
    intro listed ι m a w di hc
    have hre : Region.ready .any ops listed = [] := by
      cases hr : Region.ready .any ops listed with
      | nil => rfl
      | cons x l =>
        exfalso
        have hx : x ∈ Region.ready .any ops listed := by rw [hr]; simp
        obtain ⟨h1, o, ho, _⟩ := mem_ready.1 hx
        have hlt : x < listed.size := by rw [di.size]; exact (Array.getElem?_eq_some_iff.1 ho).1
        rw [Array.getD_eq_getD_getElem?, Array.getElem?_eq_getElem hlt] at h1
        have hm : false ∈ listed.toList := List.mem_of_getElem? (i := x) (by rw [Array.getElem?_toList, Array.getElem?_eq_getElem hlt]; simpa using h1)
        have := List.count_pos_iff.2 hm
        omega
    exact ⟨hre, fin di hre⟩
  | succ fuel ih =>
    intro listed ι m a w di hc
    refine ⟨fun hre => fin di hre, fun i hi => ?_⟩
    obtain ⟨h1, o, ho, hr⟩ := mem_ready.1 hi
    have hlt : i < listed.size := by rw [di.size]; exact (Array.getElem?_eq_some_iff.1 ho).1
    have hget : listed[i] = false := by
      rw [Array.getD_eq_getD_getElem?, Array.getElem?_eq_getElem hlt] at h1
      exact h1
    have hni : isD listed i = false := by
      unfold isD
      rw [Array.getD_eq_getD_getElem?, Array.getElem?_eq_getElem hlt]
      exact hget
    have hcount : (listed.setIfInBounds i true).toList.count false ≤ fuel := by
      rw [Array.toList_setIfInBounds, List.count_set (by simpa using hlt)]
      have hge : listed.toList[i]'(by simpa using hlt) = false := by simpa using hget
      rw [hge]
      show listed.toList.count false - 1 + 0 ≤ fuel
      omega
    cases hw : isWriter o with
    | false => exact di_nw cn hall tm tr di ho hni hr hw fun ι' a' w' di' => ih di' hcount
    | true => exact di_wr cn hall tm tr di ho hni hr hP hF hw fun ι' m' a' w' di' => ih di' hcount

theorem draw_ok (hP : okProg C.P = true) (hF : SoundF C.P C.F) {st st' : S} {a : Act} {w : World} (hi : Inv E0 st a w) (hc : canonOk ops (Region.before ops) (canon ops) 0 none = true) (tm : tmpOk ops (Region.before ops) = true)
    (h : runD C ops (Region.before ops) (canon ops) [] st = some st') (hQ : ∀ a' w', Inv E0 st' a' w' → Q .normal a' w') : wpAny C.P .any ops Q ops.size (Array.replicate ops.size false) a { w with drawn := w.drawn + 1 } := by
  obtain ⟨cn, hall⟩ := canon_all hc
  obtain ⟨St, e1, e2, tr, _⟩ := trace_of (canon ops) [] st st' h
  obtain ⟨ι, s, ht, x, wd, hd⟩ := hi
  obtain ⟨m, hm0, hmc, hnw, hm3⟩ := next_wr ops (canon ops) _ 0 rfl (Nat.zero_le _)
  have hD0 : ∀ i, isD (Array.replicate ops.size false) i = false := fun i => by
    unfold isD
    rw [Array.getD_eq_getD_getElem?, Array.getElem?_replicate]
    split <;> rfl
  have hx : Ext (⟨ι, st.h, w, E0.X⟩ : En) ⟨ι, st.h, { w with drawn := w.drawn + 1 }, E0.X⟩ := by
    refine ⟨fun o ob ho => ⟨ob, ho, .inr ⟨rfl, fun p hp => hp, fun _ _ _ _ _ _ _ _ h1 h2 => (by rw [h1] at h2; cases h2; rfl)⟩⟩, fun b hb => ⟨⟨hb.1, hb.2⟩, rfl⟩, fun j b c hj => .inr ⟨j, c, hj⟩, Nat.le_refl _, rfl⟩
  have s1 : Sim ⟨ι, st.h, { w with drawn := w.drawn + 1 }, E0.X⟩ := ⟨s.inj, s.lt, fun i b c ob hi ho => OR.ext hx rfl ob (s.obj i b c ob hi ho), s.nx, s.xlt⟩
  rw [← e1] at s1 hx
  obtain ⟨s2, x2, hholes⟩ := pad_to (E0 := E0) tr hm0 hmc hnw s1
  have di : DI E0 ops (canon ops) St (Array.replicate ops.size false) ι m a { w with drawn := w.drawn + 1 } := by
    refine ⟨by simp, ⟨fun i h => (by rw [hD0] at h; cases h), fun i o h => (by rw [hD0] at h; cases h)⟩, hmc, fun p i hp hj hwj => ?_, fun p i _ h => (by rw [hD0] at h; cases h), hm3, s2, ?_, ⟨wd.os, wd.tape, wd.output, wd.size⟩, hd, ?_, fun k i hk hj _ _ hg => hholes k i (Nat.zero_le _) hk hj hg⟩
    · have := hnw p i (Nat.zero_le _) hp hj
      rw [hwj] at this; cases this
    · rw [← e1] at x
      exact (x.trans hx).trans x2
    · have he : (List.range (St 0).t.length).map (slotV ops (canon ops) St (isD (Array.replicate ops.size false)) (canon ops).length) = (St 0).t := by
        apply List.ext_getElem?
        intro y
        rw [List.getElem?_map]
        by_cases hy : y < (St 0).t.length
        · rw [List.getElem?_range hy]
          simp only [Option.map_some]
          rw [slot_none (k := 0) _ (Nat.zero_le _) fun p i _ _ _ _ => hD0 i]
          show some ((St 0).t.getD y .undef) = _
          rw [List.getD_eq_getElem?_getD, List.getElem?_eq_getElem hy]; rfl
        · rw [List.getElem?_eq_none (l := List.range _) (i := y) (by simp; omega), List.getElem?_eq_none (l := (St 0).t) (i := y) (by omega)]
          rfl
      rw [he]
      rw [← e1] at ht
      exact VL.ext (hx.trans x2) _ _ ht
  exact any_ok hP hF cn hall tm tr (by rw [e2]; exact hQ) ops.size di (by simp [List.count_replicate])

theorem region_ok (hP : okProg C.P = true) (hF : SoundF C.P C.F) {id : Nat} {draw : Bool} {st st' : S} {a : Act} {w : World} (hi : Inv E0 st a w) (h : regionA C ops draw st = some st')
    (hQ : ∀ a' w', Inv E0 st' a' w' → Q .normal a' w') : (Code.region id ops draw).wp C.P Q a w := by
  unfold regionA at h
  cases draw with
  | false =>
    rw [if_neg (by simp)] at h
    exact wp_region (runOps_ok hP hF _ hi h hQ)
  | true =>
    rw [if_pos rfl] at h
    split at h
    · rename_i hc
      rw [Bool.and_eq_true] at hc
      have hm : C.P.follows .mixedOrders = true := by
        have := hP
        unfold okProg at this
        rw [Bool.and_eq_true] at this
        exact this.1
      exact wp_region_any hm (draw_ok hP hF hi hc.1 hc.2 h hQ)
    · cases h
end
end Go.Proofs.YthihinlamlamhaaE
