/- A region that draws its order. -/
import Derived.Test.YtiemjcchlfbglaaGreatBaB
import Derived.LoopN
import Derived.Below
import Derived.ChangeArms
import Derived.WideShapes
namespace Go.Proofs.YtiemjcchlfbglaaGreatE
open Go
set_option linter.unusedSimpArgs false
set_option linter.unusedVariables false

def isD (listed : Array Bool) (i : Nat) : Bool := listed.getD i false

theorem heapF_len (fz : Fz) (h : List AObj) (args : List AV) : (heapF fz h args).length = h.length := by
  unfold heapF
  split
  · exact markRo_len _ _
  · rfl
theorem callA_out {F : CallF} {fz : Fz} {h h' : List AObj} {g : FuncId} {args : List AV} {v : AV} (hc : callA F fz h g args = some (v, h')) {i : Nat} (hi : i ∉ sig fz h args) (hil : i < h.length) : (h'[i]?).map roO = (h[i]?).map roO := by
  unfold callA at hc
  split at hc
  · split at hc
    · cases hc
      have hlen : i < (setMany (heapF fz h args) (sig fz h args) ((‹List AObj›.take (sig fz h args).length).map (mapO (backTo h.length (sig fz h args) ‹List AObj›.length)))).length := by
        rw [setMany_len, heapF_len]; exact hil
      rw [List.getElem?_append, if_pos hlen, setMany_out _ _ _ _ hi]
      unfold heapF
      split
      · rw [markRo_get]
        split
        · rw [Option.map_map]; congr 1; funext ob; exact roO_roO ob
        · rfl
      · rfl
    · cases hc
  · cases hc

theorem wrA_out {C : Ctx} {t : List AV} {h h' : List AObj} {o : Oper} {v : AV} (hw : wrA C (ev t) h o = some (v, h')) {i : Nat} (hi : i ∉ touched C (ev t) h o) (hil : i < h.length) : (h'[i]?).map roO = (h[i]?).map roO := by
  unfold wrA at hw
  split at hw
  · rename_i ty p x hop
    rw [Option.map_eq_some_iff] at hw
    obtain ⟨h2, hs, he⟩ := hw
    cases he
    obtain ⟨q, ob, ob', hp, ho, hd, rfl⟩ := storeA_out hs
    have hq : touched C (ev t) h o = [q] := by
      unfold touched
      rw [hop]
      rcases hp with hp | ⟨_, hp⟩ | ⟨_, _, hp⟩ <;> simp [hp]
    rw [hq] at hi
    rw [List.getElem?_set, if_neg (fun e => hi (by simp [e]))]
  · rename_i it hop
    have hshape : ∃ q, ev t it = .ptr q 0 ∧ ∀ i, i ≠ q → h'[i]? = h[i]? := by
      unfold nextA at hw
      split at hw
      · rename_i q hq
        split at hw
        · split at hw
          · cases hw; exact ⟨q, hq, fun i hi => by rw [List.getElem?_set, if_neg (Ne.symm hi)]⟩
          · cases hw; exact ⟨q, hq, fun i _ => rfl⟩
        · cases hw
      · cases hw
    obtain ⟨q, hq, hout⟩ := hshape
    have htc : touched C (ev t) h o = [q] := by unfold touched; rw [hop]; simp [hq]
    rw [htc] at hi
    rw [hout i (fun e => hi (by simp [e]))]
  · rename_i args tys hop
    split at hw
    · rename_i x y hl
      have htc : touched C (ev t) h o = (match ev t x with | .sl b _ _ => [b] | _ => []) := by unfold touched; rw [hop]; simp only [hl]; cases ev t x <;> rfl
      rw [htc] at hi
      unfold appendA at hw
      split at hw
      · split at hw
        · · split at hw
            · split at hw
              · split at hw
                · split at hw
                  · split at hw
                    · cases hw; rfl
                    · split at hw
                      · cases hw; rw [List.getElem?_append, if_pos hil]
                      · cases hw
                  · rename_i q len hq
                    split at hw
                    · split at hw
                      · cases hw
                        simp only [hq] at hi
                        rw [List.getElem?_append, if_pos (by simpa using hil), List.getElem?_set, if_neg (fun e => hi (by simp [e]))]
                      · cases hw
                    · cases hw
                  · cases hw
                · cases hw
              · cases hw
            · cases hw
        · cases hw
      · cases hw
    · cases hw
  · rename_i args tys hop
    split at hw
    · rename_i x y hl
      obtain ⟨q, off, len, ob, ob', hd, ho, hdd, rfl⟩ := copyA_out hw
      have htc : touched C (ev t) h o = [q] := by unfold touched; rw [hop]; simp [hl, hd]
      rw [htc] at hi
      rw [List.getElem?_set, if_neg (fun e => hi (by simp [e]))]
    · cases hw
  · cases hw
  · split at hw
    · rename_i g args hca
      split at hw
      · have htc : touched C (ev t) h o = sig (C.fz g) h args := by
          unfold touched
          unfold calleeA at hca
          split at hca
          · rename_i f as tys hop
            simp only [hop]
            unfold calleeA
            simp only
            rw [hca]
          · rename_i r name as tys hop
            simp only [hop]
            unfold calleeA
            simp only
            rw [hca]
          · cases hca
        rw [htc] at hi
        exact callA_out hw hi hil
      · cases hw
    · cases hw

theorem wrA_len {C : Ctx} {ρ : Operand → AV} {h h' : List AObj} {o : Oper} {v : AV} (hw : wrA C ρ h o = some (v, h')) : h.length ≤ h'.length := by
  unfold wrA at hw
  split at hw
  · rw [Option.map_eq_some_iff] at hw
    obtain ⟨h2, hs, he⟩ := hw
    cases he
    obtain ⟨q, ob, ob', hp, ho, hd, rfl⟩ := storeA_out hs
    simp
  · unfold nextA at hw
    split at hw
    · split at hw
      · split at hw
        · cases hw; simp
        · cases hw; exact Nat.le_refl _
      · cases hw
    · cases hw
  · split at hw
    · unfold appendA at hw
      split at hw
      · split at hw
        · · split at hw
            · split at hw
              · split at hw
                · split at hw
                  · split at hw
                    · cases hw; exact Nat.le_refl _
                    · split at hw
                      · cases hw; simp
                      · cases hw
                  · split at hw
                    · split at hw
                      · cases hw; simp
                      · cases hw
                    · cases hw
                  · cases hw
                · cases hw
              · cases hw
            · cases hw
        · cases hw
      · cases hw
    · cases hw
  · split at hw
    · obtain ⟨q, off, len, ob, ob', hd, ho, hdd, rfl⟩ := copyA_out hw
      simp
    · cases hw
  · cases hw
  · split at hw
    · split at hw
      · unfold callA at hw
        split at hw
        · split at hw
          · cases hw
            rw [List.length_append, setMany_len, heapF_len]
            omega
          · cases hw
        · cases hw
      · cases hw
    · cases hw

theorem wantedA_congr {ops : Array Oper} {t t' : List AV} {o : Oper} (h : ∀ x : Nat, x ∈ o.looksAt ops → t[x]? = t'[x]?) : wantedA ops t o = wantedA ops t' o := by
  unfold wantedA
  cases hg : o.guard with
  | none => rfl
  | some p =>
    obtain ⟨j, want⟩ := p
    simp only
    cases hd : (ops[j]?).bind (·.dst) with
    | none => rfl
    | some d =>
      simp only
      rw [h d (by unfold Oper.looksAt; rw [hg]; simp [hd])]
theorem ev_congr {ops : Array Oper} {t t' : List AV} {o : Oper} (h : ∀ x : Nat, x ∈ o.looksAt ops → t[x]? = t'[x]?) : ∀ x ∈ o.op.operands, ev t x = ev t' x := by
  intro x hx
  cases x with
  | tmp i =>
    simp only [ev, List.getD_eq_getElem?_getD]
    rw [h i (List.mem_append_left _ (List.mem_filterMap.2 ⟨.tmp i, by simpa using hx, rfl⟩))]
  | _ => rfl

section
variable {C : Ctx} {E0 : En} {ops : Array Oper} {c : List Nat} {St : Nat → S}

structure DI (E0 : En) (ops : Array Oper) (c : List Nat) (St : Nat → S) (listed : Array Bool) (ι : Nat → Option (Nat × Nat)) (m : Nat) (a : Act) (w : World) : Prop where
  size : listed.size = ops.size
  up : Up ops (isD listed)
  mn : m ≤ c.length
  w1 : ∀ (p i : Nat), p < m → c[p]? = some i → isWr ops i = true → isD listed i = true
  w2 : ∀ (p i : Nat), c[p]? = some i → isD listed i = true → p < m
  w3 : m = c.length ∨ ∃ i, c[m]? = some i ∧ isWr ops i = true
  sim : Sim ⟨ι, (St m).h, w, E0.X⟩
  ext : Ext E0 ⟨ι, (St m).h, w, E0.X⟩
  wd : Wd E0.w w
  df : a.defers = []
  slots : VL ⟨ι, (St m).h, w, E0.X⟩ ((List.range (St 0).t.length).map (slotV ops c St (isD listed) c.length)) a.tmps.toList
  holes : ∀ (k i : Nat), k < m → c[k]? = some i → isD listed i = false → isWr ops i = false → (St k).h.length < (St (k + 1)).h.length →
    ι (St k).h.length = none ∧ ∃ ob, (St (k + 1)).h[(St k).h.length]? = some ob ∧ ob ≠ .dead ∧ (St m).h[(St k).h.length]? = some ob

theorem isD_set {listed : Array Bool} {i : Nat} (hi : i < listed.size) (j : Nat) : isD (listed.setIfInBounds i true) j = (isD listed j || j == i) := by
  unfold isD
  rw [Array.getD_eq_getD_getElem?, Array.getD_eq_getD_getElem?, Array.getElem?_setIfInBounds]
  by_cases hij : i = j
  · subst hij; rw [if_pos rfl, if_pos hi]; simp
  · rw [if_neg hij]
    have : (j == i) = false := by simpa using Ne.symm hij
    rw [this, Bool.or_false]

theorem wr_iff {ops : Array Oper} {i : Nat} {o : Oper} (ho : ops[i]? = some o) : isWr ops i = isWriter o := by
  unfold isWr; rw [ho]; rfl

/-- What a step of the canonical run does to the objects. -/
theorem st_nw (tr : Trace C ops c St) {k i : Nat} {o : Oper} (hk : c[k]? = some i) (ho : ops[i]? = some o) (hw : isWriter o = false) : ∃ l, (St (k + 1)).h = (St k).h ++ l ∧ ∀ ob ∈ l, ob ≠ .dead := by
  obtain ⟨o', b, ho', hb, hs⟩ := tr.step k i hk
  rw [ho] at ho'; cases ho'
  unfold stepA at hs
  rw [ho] at hs
  simp only [hb] at hs
  split at hs
  · rw [Option.map_eq_some_iff] at hs
    obtain ⟨⟨v, h1⟩, h2, h3⟩ := hs
    unfold opA at h2
    rw [if_neg (by rw [hw]; simp), Option.map_eq_some_iff] at h2
    obtain ⟨⟨u, ob⟩, h4, h5⟩ := h2
    cases h5
    refine ⟨ob.toList, by rw [← h3, put_h], fun x hx => ?_⟩
    cases ob with
    | none => simp at hx
    | some ob => simp at hx; subst hx; exact nwA_alive h4
  · exact ⟨[], by rw [← Option.some.inj hs, put_h]; simp, by simp⟩
theorem st_look (tr : Trace C ops c St) {k i b : Nat} {o : Oper} (hk : c[k]? = some i) (ho : ops[i]? = some o) (hb : b < (St k).h.length)
    (ht : isWriter o = true → wantedA ops (St k).t o = some true → b ∉ touched C (ev (St k).t) (St k).h o) : ((St (k + 1)).h[b]?).map roO = ((St k).h[b]?).map roO ∧ (St k).h.length ≤ (St (k + 1)).h.length := by
  cases hw : isWriter o with
  | false =>
    obtain ⟨l, h1, _⟩ := st_nw tr hk ho hw
    rw [h1, List.getElem?_append, if_pos hb]
    exact ⟨rfl, by simp⟩
  | true =>
    obtain ⟨o', bb, ho', hbb, hs⟩ := tr.step k i hk
    rw [ho] at ho'; cases ho'
    unfold stepA at hs
    rw [ho] at hs
    simp only [hbb] at hs
    split at hs
    · rename_i hbt
      rw [Option.map_eq_some_iff] at hs
      obtain ⟨⟨v, h1⟩, h2, h3⟩ := hs
      unfold opA at h2
      rw [if_pos hw] at h2
      rw [← h3, put_h]
      have hout := wrA_out h2 (ht hw (by rw [hbb, hbt])) hb
      exact ⟨hout, wrA_len h2⟩
    · rw [← Option.some.inj hs, put_h]
      exact ⟨rfl, Nat.le_refl _⟩

theorem st_look_len (tr : Trace C ops c St) {k i : Nat} (hk : c[k]? = some i) : (St k).h.length ≤ (St (k + 1)).h.length := by
  obtain ⟨o, b, ho, hb, hs⟩ := tr.step k i hk
  cases hw : isWriter o with
  | false => obtain ⟨l, h1, _⟩ := st_nw tr hk ho hw; rw [h1]; simp
  | true =>
    unfold stepA at hs
    rw [ho] at hs
    simp only [hb] at hs
    split at hs
    · rw [Option.map_eq_some_iff] at hs
      obtain ⟨⟨v, h1⟩, h2, h3⟩ := hs
      unfold opA at h2
      rw [if_pos hw] at h2
      rw [← h3, put_h]
      exact wrA_len h2
    · rw [← Option.some.inj hs, put_h]
      exact Nat.le_refl _

/-- From position k to m: what no writer between touches looks as it did. -/
theorem look_to (tr : Trace C ops c St) {k b : Nat} (hb : b < (St k).h.length) : ∀ m, k ≤ m → m ≤ c.length →
    (∀ (p i : Nat) (o : Oper), k ≤ p → p < m → c[p]? = some i → ops[i]? = some o → isWriter o = true → wantedA ops (St p).t o = some true → b ∉ touched C (ev (St p).t) (St p).h o) →
    ((St m).h[b]?).map roO = ((St k).h[b]?).map roO ∧ (St k).h.length ≤ (St m).h.length
  | 0, hkm, _, _ => by
    have : k = 0 := by omega
    subst this
    exact ⟨rfl, Nat.le_refl _⟩
  | m + 1, hkm, hmc, ht => by
    by_cases he : k = m + 1
    · subst he; exact ⟨rfl, Nat.le_refl _⟩
    · obtain ⟨h1, h2⟩ := look_to tr hb m (by omega) (by omega) fun p i o a1 a2 => ht p i o a1 (by omega)
      have hc : c[m]? = some (c[m]'(by omega)) := List.getElem?_eq_getElem (by omega)
      obtain ⟨o, bb, ho, hbb, hs⟩ := tr.step m _ hc
      obtain ⟨h3, h4⟩ := st_look tr hc ho (b := b) (by omega) fun hw hwt => ht m _ o (by omega) (by omega) hc ho hw hwt
      exact ⟨h3.trans h1, by omega⟩
/-- From position k to m, with no writer between: objects are only added. -/
theorem app_to (tr : Trace C ops c St) {k : Nat} : ∀ m, k ≤ m → m ≤ c.length → (∀ (p i : Nat), k ≤ p → p < m → c[p]? = some i → isWr ops i = false) → ∃ l, (St m).h = (St k).h ++ l
  | 0, hkm, _, _ => by
    have : k = 0 := by omega
    subst this
    exact ⟨[], by simp⟩
  | m + 1, hkm, hmc, hw => by
    by_cases he : k = m + 1
    · subst he; exact ⟨[], by simp⟩
    · obtain ⟨l, h1⟩ := app_to tr m (by omega) (by omega) fun p i a1 a2 => hw p i a1 (by omega)
      have hc : c[m]? = some (c[m]'(by omega)) := List.getElem?_eq_getElem (by omega)
      obtain ⟨o, bb, ho, hbb, hs⟩ := tr.step m _ hc
      have hnw := hw m _ (by omega) (by omega) hc
      rw [wr_iff ho] at hnw
      obtain ⟨l', h2, _⟩ := st_nw tr hc ho hnw
      exact ⟨l ++ l', by rw [h2, h1, List.append_assoc]⟩

variable {Q : Exit → Act → World → Prop}

/-- Objects that do not stand anywhere yet. -/
theorem pad_ok {ι : Nat → Option (Nat × Nat)} {h l : List AObj} {w : World} {X : Nat → Prop} (s : Sim ⟨ι, h, w, X⟩) : Sim ⟨ι, h ++ l, w, X⟩ ∧ Ext ⟨ι, h, w, X⟩ ⟨ι, h ++ l, w, X⟩ := by
  have hold : ∀ i b c, ι i = some (b, c) → (h ++ l)[i]? = h[i]? := fun i b c hi => by
    rw [List.getElem?_append, if_pos (s.lt i b c hi).1]
  have x : Ext ⟨ι, h, w, X⟩ ⟨ι, h ++ l, w, X⟩ := by
    refine ⟨fun o ob ho => ⟨ob, ?_, .inr ⟨rfl, fun p hp => hp, fun _ _ _ _ _ _ _ _ e1 e2 => (by rw [e1] at e2; cases e2; rfl)⟩⟩, fun b hb => ⟨⟨hb.1, fun o c ob h1 h2 => hb.2 o c ob h1 ((hold o b c h1).symm.trans h2)⟩, rfl⟩, fun j b c hj => .inr ⟨j, c, hj⟩, Nat.le_refl _, rfl⟩
    have ho : h[o]? = some ob := ho
    show (h ++ l)[o]? = some ob
    rw [List.getElem?_append, if_pos (List.getElem?_eq_some_iff.1 ho).1]; exact ho
  refine ⟨⟨s.inj, fun i b c hi => ?_, fun i b c ob hi ho => ?_, s.nx, s.xlt⟩, x⟩
  · have := s.lt i b c hi
    exact ⟨by show i < (h ++ l).length; rw [List.length_append]; exact Nat.lt_of_lt_of_le this.1 (Nat.le_add_right _ _), this.2⟩
  · exact OR.ext x rfl ob (s.obj i b c ob hi ((hold i b c hi).symm.trans ho))

section
variable (cn : Canon ops c) (hall : ∀ i, i < ops.size → i ∈ c) (tm : tmpOk ops (Region.before ops) = true) (tr : Trace C ops c St) {listed : Array Bool} {ι : Nat → Option (Nat × Nat)} {m : Nat} {a : Act} {w : World}
  (di : DI E0 ops c St listed ι m a w) {i k : Nat} {o : Oper} (hk : c[k]? = some i) (ho : ops[i]? = some o) (hni : isD listed i = false) (hr : ∀ e ∈ o.after, Region.binds .any e = true → isD listed e.on = true)

theorem up_set (hil : i < listed.size) (di : DI E0 ops c St listed ι m a w) (ho : ops[i]? = some o) (hr : ∀ e ∈ o.after, Region.binds .any e = true → isD listed e.on = true) : Up ops (isD (listed.setIfInBounds i true)) := by
  refine ⟨fun j hj => ?_, fun j o' hj ho' e he hb => ?_⟩
  · rw [isD_set hil, Bool.or_eq_true] at hj
    rcases hj with hj | hj
    · exact di.up.lt j hj
    · have : j = i := by simpa using hj
      subst this; rw [← di.size]; exact hil
  · rw [isD_set hil, Bool.or_eq_true] at hj ⊢
    rcases hj with hj | hj
    · exact .inl (di.up.cl j o' hj ho' e he hb)
    · have : j = i := by simpa using hj
      subst this
      rw [ho] at ho'; cases ho'
      exact .inl (hr e he hb)

include cn tm tr di hk ho hni hr in
theorem read_ok : ∀ x : Nat, x ∈ o.looksAt ops → ((List.range (St 0).t.length).map (slotV ops c St (isD listed) c.length))[x]? = (St k).t[x]? := by
  intro x hx
  have hkl : k < c.length := (List.getElem?_eq_some_iff.1 hk).1
  have hlen := st_len tr k (by omega)
  rw [List.getElem?_map]
  by_cases hxl : x < (St 0).t.length
  · rw [List.getElem?_range hxl]
    simp only [Option.map_some]
    rw [slot_read cn tm tr di.up hk ho hni hr hx, List.getD_eq_getElem?_getD, List.getElem?_eq_getElem (l := (St k).t) (i := x) (by omega)]
    rfl
  · rw [List.getElem?_eq_none (l := List.range _) (i := x) (by simp; omega), List.getElem?_eq_none (l := (St k).t) (i := x) (by omega)]
    rfl

include cn tm di hk ho hni in
/-- One more has come up: the slots. -/
theorem slots_set {E' : En} {v : AV} {cv : Value} (hv : ∀ t, o.dst = some t → t < (St 0).t.length → (St (k + 1)).t.getD t .undef = v) (hil : i < listed.size)
    (hold : VL E' ((List.range (St 0).t.length).map (slotV ops c St (isD listed) c.length)) a.tmps.toList) (vr : VR E' v cv) :
    VL E' ((List.range (St 0).t.length).map (slotV ops c St (isD (listed.setIfInBounds i true)) c.length)) (a.put o.dst cv).tmps.toList := by
  have he : (List.range (St 0).t.length).map (slotV ops c St (isD (listed.setIfInBounds i true)) c.length) = ((⟨(List.range (St 0).t.length).map (slotV ops c St (isD listed) c.length), []⟩ : S).put o.dst v []).t := by
    apply List.ext_getElem?
    intro x
    rw [List.getElem?_map]
    by_cases hxl : x < (St 0).t.length
    · rw [List.getElem?_range hxl]
      simp only [Option.map_some]
      rw [slot_write cn tm di.up hk ho hni (isD_set hil) x]
      cases hd : o.dst with
      | none =>
        rw [if_neg (by simp)]
        show _ = ((List.range (St 0).t.length).map (slotV ops c St (isD listed) c.length))[x]?
        rw [List.getElem?_map, List.getElem?_range hxl]; rfl
      | some t =>
        show _ = (((List.range (St 0).t.length).map (slotV ops c St (isD listed) c.length)).set t v)[x]?
        rw [List.getElem?_set]
        by_cases htx : t = x
        · subst htx
          rw [if_pos rfl, if_pos rfl, if_pos (by simpa using hxl), hv t hd hxl]
        · rw [if_neg (fun e => htx (Option.some.inj e)), if_neg htx, List.getElem?_map, List.getElem?_range hxl]; rfl
    · rw [List.getElem?_eq_none (by simp; omega)]
      symm
      rw [Option.map_none]
      apply List.getElem?_eq_none
      rw [put_len]
      simp; omega
  rw [he]
  exact put_ok hold o.dst vr []

include cn hall tm tr di ho hni hr in
/-- One that writes nothing comes up. -/
theorem di_nw (hw : isWriter o = false) {K : Act → World → Prop}
    (hK : ∀ ι' a' w', DI E0 ops c St (listed.setIfInBounds i true) ι' m a' w' → K a' w') : wpOp C.P ops Q i K a w := by
  have hisz : i < ops.size := (Array.getElem?_eq_some_iff.1 ho).1
  have hil : i < listed.size := by rw [di.size]; exact hisz
  obtain ⟨k, hk⟩ := List.getElem?_of_mem (hall i hisz)
  have hkl : k < c.length := (List.getElem?_eq_some_iff.1 hk).1
  have hkm : k < m := by
    rcases Nat.lt_or_ge k m with h | h
    · exact h
    · exfalso
      rcases di.w3 with h1 | ⟨j, h1, h2⟩
      · omega
      · have hne : m ≠ k := fun e => by
          subst e
          rw [h1] at hk; cases hk
          rw [wr_iff ho, hw] at h2; cases h2
        obtain ⟨p', j', e1, e2, e3, e4, e5⟩ := cn.wr k i m j hk (by omega) h1 h2
        have := di.w2 p' j' e3 (di.up.ready ho hr e5)
        omega
  obtain ⟨o', b, ho', hb, hs⟩ := tr.step k i hk
  rw [ho] at ho'; cases ho'
  have hread := read_ok cn tm tr di hk ho hni hr
  have hwant : Region.wanted o (yielded ops a.tmps) = b := wanted_ok di.slots (by rw [wantedA_congr hread]; exact hb)
  unfold stepA at hs
  rw [ho] at hs
  simp only [hb] at hs
  unfold wpOp
  rw [ho]
  simp only
  rw [hwant]
  -- what is kept of the others
  have rest : ∀ (ι' : Nat → Option (Nat × Nat)) (v : AV) (cv : Value) (w' : World), (∀ t, o.dst = some t → t < (St 0).t.length → (St (k + 1)).t.getD t .undef = v) → Sim ⟨ι', (St m).h, w', E0.X⟩ → Ext ⟨ι, (St m).h, w, E0.X⟩ ⟨ι', (St m).h, w', E0.X⟩ → Wd w w' → VR ⟨ι', (St m).h, w', E0.X⟩ v cv →
      (∀ j, j ≠ (St k).h.length → ι' j = ι j) → ((St k).h.length < (St (k + 1)).h.length ∨ ∀ j, ι' j = ι j) → DI E0 ops c St (listed.setIfInBounds i true) ι' m (a.put o.dst cv) w' := by
    intro ι' v cv w' hv s' x' wd' vr hι hgrow
    refine ⟨by simpa using di.size, up_set hil di ho hr, di.mn, fun p j hp hj hwj => ?_, fun p j hj hd => ?_, di.w3, s', di.ext.trans x', di.wd.trans wd', by rw [put_defers]; exact di.df, slots_set cn tm di hk ho hni hv hil (VL.ext x' _ _ di.slots) vr, fun k' j hk' hj hd hwj hg => ?_⟩
    · rw [isD_set hil, di.w1 p j hp hj hwj]; rfl
    · rw [isD_set hil, Bool.or_eq_true] at hd
      rcases hd with hd | hd
      · exact di.w2 p j hj hd
      · have : j = i := by simpa using hd
        subst this
        have := cn.inj p k j hj hk
        omega
    · rw [isD_set hil, Bool.or_eq_false_iff] at hd
      obtain ⟨h1, h2⟩ := di.holes k' j hk' hj hd.1 hwj hg
      have hne : k' ≠ k := fun e => by subst e; rw [hj] at hk; cases hk; simp at hd
      refine ⟨?_, h2⟩
      rcases hgrow with hgr | hsame
      · rw [hι _ fun e => ?_]
        · exact h1
        · -- two that make something make it at different numbers
          rcases Nat.lt_or_gt_of_ne hne with hlt | hgt
          · have hmono : ∀ q, k' + 1 ≤ q → q ≤ c.length → (St (k' + 1)).h.length ≤ (St q).h.length := by
              intro q
              induction q with
              | zero => intro h; omega
              | succ q ih =>
                intro h1 h2
                by_cases he : k' + 1 = q + 1
                · rw [he]; exact Nat.le_refl _
                · exact Nat.le_trans (ih (by omega) (by omega)) (st_look_len tr (List.getElem?_eq_getElem (by omega)))
            have := hmono k (by omega) (by omega)
            omega
          · have hmono : ∀ q, k + 1 ≤ q → q ≤ c.length → (St (k + 1)).h.length ≤ (St q).h.length := by
              intro q
              induction q with
              | zero => intro h; omega
              | succ q ih =>
                intro h1 h2
                by_cases he : k + 1 = q + 1
                · rw [he]; exact Nat.le_refl _
                · exact Nat.le_trans (ih (by omega) (by omega)) (st_look_len tr (List.getElem?_eq_getElem (by omega)))
            have hk'c := (List.getElem?_eq_some_iff.1 hj).1
            have := hmono k' (by omega) (by omega)
            omega
      · rw [hsame]; exact h1
  split at hs
  · rename_i hbt
    rw [Option.map_eq_some_iff] at hs
    obtain ⟨⟨v, h1⟩, h2, h3⟩ := hs
    unfold opA at h2
    rw [if_neg (by rw [hw]; simp), Option.map_eq_some_iff] at h2
    obtain ⟨⟨u, ob⟩, h4, h5⟩ := h2
    cases h5
    rw [hbt, if_pos rfl]
    left
    have hdst : ∀ t, o.dst = some t → t < (St 0).t.length → (St (k + 1)).t.getD t .undef = u := fun t ht hlt => by
      rw [← h3]
      have hl := st_len tr k (by omega)
      unfold S.put
      rw [ht]
      show ((St k).t.set t u).getD t .undef = u
      rw [List.getD_eq_getElem?_getD, List.getElem?_set, if_pos rfl, if_pos (by rw [hl]; exact hlt)]
      rfl
    have hh1 : (St (k + 1)).h = (St k).h ++ ob.toList := by rw [← h3, put_h]
    -- the same answer at the objects of now
    have hnw : nwA C.P (ev ((List.range (St 0).t.length).map (slotV ops c St (isD listed) c.length))) (St m).h (St k).h.length o = some (u, ob) := by
      rw [nwA_congr (ev_congr hread), ← h4]
      refine (nwA_local fun q hq => ?_).symm
      have hqlt := nwA_reads h4 hq
      refine ((look_to tr hqlt m (by omega) di.mn fun p j oj h6 h7 h8 h9 h10 h11 => ?_).1).symm
      have hpk : p ≠ k := fun e => by subst e; rw [hk] at h8; cases h8; rw [ho] at h9; cases h9; rw [hw] at h10; cases h10
      rcases tr.ok p j oj h8 h9 h11 h10 k i o q (by omega) hk ho (by rw [hb, hbt]) hw hq with h12 | h12
      · have hdj := di.w1 p j h7 h8 (by rw [wr_iff h9]; exact h10)
        have := di.up.bit hdj h12
        rw [hni] at this; cases this
      · exact h12
    have hdo := nw_ok (P := C.P) (E := ⟨ι, (St m).h, w, E0.X⟩) di.sim di.slots hnw
    unfold Oper.wp
    cases ob with
    | none =>
      obtain ⟨cv, hrun, hv⟩ := hdo
      have hrun : (execOp a.eval o).run C.P w = .ok (.value cv) w := hrun
      rw [hrun, Oper.upon_value]
      exact hK ι _ _ (rest ι u cv w hdst di.sim (Ext.refl _) (Wd.refl _) hv (fun _ _ => rfl) (.inr fun _ => rfl))
    | some ob =>
      obtain ⟨cv, w', hrun, hn⟩ := hdo
      have hrun : (execOp a.eval o).run C.P w = .ok (.value cv) w' := hrun
      rw [hrun, Oper.upon_value]
      have hgrow : (St k).h.length < (St (k + 1)).h.length := by rw [hh1]; simp
      obtain ⟨hfree, ob2, hob2, _, hobm⟩ := di.holes k i hkm hk hni (by rw [wr_iff ho]; exact hw) hgrow
      have : ob2 = ob := by rw [hh1] at hob2; simpa using hob2.symm
      subst this
      obtain ⟨c', g1, g2, g3, g4⟩ := new_ok di.sim hn (St m).h (fun _ _ => rfl) hobm hfree (.inr hobm)
      exact hK _ _ _ (rest _ u cv w' hdst g1 g2 g3 g4 (fun j hj => by show upd ι _ _ j = ι j; unfold upd; rw [if_neg hj]) (.inl hgrow))
  · rename_i hbf
    rw [if_neg hbf]
    have hst := Option.some.inj hs
    refine hK ι _ _ (rest ι .undef undef w (fun t ht hlt => ?_) di.sim (Ext.refl _) (Wd.refl _) (by simp [AV.undef, undef, VR, VL]) (fun _ _ => rfl) (.inr fun _ => rfl))
    rw [← hst]
    have hl := st_len tr k (by omega)
    unfold S.put
    rw [ht]
    show ((St k).t.set t .undef).getD t .undef = .undef
    rw [List.getD_eq_getElem?_getD, List.getElem?_set, if_pos rfl, if_pos (by rw [hl]; exact hlt)]
    rfl
end

/-- The next writer from position k on. -/
theorem next_wr (ops : Array Oper) (c : List Nat) : ∀ (n k : Nat), c.length - k = n → k ≤ c.length → ∃ m, k ≤ m ∧ m ≤ c.length ∧ (∀ (p i : Nat), k ≤ p → p < m → c[p]? = some i → isWr ops i = false) ∧ (m = c.length ∨ ∃ i, c[m]? = some i ∧ isWr ops i = true)
  | 0, k, h, hk => ⟨k, Nat.le_refl _, hk, fun p i h1 h2 => by omega, .inl (by omega)⟩
  | n + 1, k, h, hk => by
    have hc : c[k]? = some (c[k]'(by omega)) := List.getElem?_eq_getElem (by omega)
    cases hw : isWr ops (c[k]'(by omega)) with
    | true => exact ⟨k, Nat.le_refl _, hk, fun p i h1 h2 => by omega, .inr ⟨_, hc, hw⟩⟩
    | false =>
      obtain ⟨m, h1, h2, h3, h4⟩ := next_wr ops c n (k + 1) (by omega) (by omega)
      refine ⟨m, by omega, h2, fun p i h5 h6 h7 => ?_, h4⟩
      by_cases he : p = k
      · subst he; rw [hc] at h7; cases h7; exact hw
      · exact h3 p i (by omega) h6 h7

/-- From a state at position k (with what is before it) to the next writer. -/
theorem pad_to (tr : Trace C ops c St) {k m : Nat} (hkm : k ≤ m) (hmc : m ≤ c.length) (hnw : ∀ (p i : Nat), k ≤ p → p < m → c[p]? = some i → isWr ops i = false) {ι : Nat → Option (Nat × Nat)} {w : World} (s : Sim ⟨ι, (St k).h, w, E0.X⟩) :
    Sim ⟨ι, (St m).h, w, E0.X⟩ ∧ Ext ⟨ι, (St k).h, w, E0.X⟩ ⟨ι, (St m).h, w, E0.X⟩ ∧
    (∀ (p i : Nat), k ≤ p → p < m → c[p]? = some i → (St p).h.length < (St (p + 1)).h.length → ι (St p).h.length = none ∧ ∃ ob, (St (p + 1)).h[(St p).h.length]? = some ob ∧ ob ≠ .dead ∧ (St m).h[(St p).h.length]? = some ob) := by
  obtain ⟨l, hl⟩ := app_to tr m hkm hmc hnw
  have hp := pad_ok (l := l) s
  rw [← hl] at hp
  refine ⟨hp.1, hp.2, fun p i h1 h2 h3 hg => ?_⟩
  obtain ⟨o, b, ho, hb, hs⟩ := tr.step p i h3
  have hnwp := hnw p i h1 h2 h3
  rw [wr_iff ho] at hnwp
  obtain ⟨l1, e1, e2⟩ := st_nw tr h3 ho hnwp
  obtain ⟨l0, e0⟩ := app_to tr p h1 (by omega) fun q j h4 h5 => hnw q j h4 (by omega)
  obtain ⟨l2, e3⟩ := app_to tr m (show p + 1 ≤ m by omega) hmc fun q j h4 h5 => hnw q j (by omega) h5
  obtain ⟨ob, hget⟩ : ∃ ob, (St (p + 1)).h[(St p).h.length]? = some ob := ⟨_, List.getElem?_eq_getElem hg⟩
  refine ⟨?_, ob, hget, ?_, ?_⟩
  · cases hc : ι (St p).h.length with
    | none => rfl
    | some q =>
      have := (s.lt _ q.1 q.2 hc).1
      have h5 : (St p).h.length < (St k).h.length := this
      rw [e0, List.length_append] at h5
      omega
  · refine e2 _ ?_
    rw [e1, List.getElem?_append, if_neg (by omega), Nat.sub_self] at hget
    exact List.mem_of_getElem? hget
  · rw [e3, List.getElem?_append, if_pos hg]; exact hget

section
variable (cn : Canon ops c) (hall : ∀ i, i < ops.size → i ∈ c) (tm : tmpOk ops (Region.before ops) = true) (tr : Trace C ops c St) {listed : Array Bool} {ι : Nat → Option (Nat × Nat)} {m : Nat} {a : Act} {w : World}
  (di : DI E0 ops c St listed ι m a w) {i : Nat} {o : Oper} (ho : ops[i]? = some o) (hni : isD listed i = false) (hr : ∀ e ∈ o.after, Region.binds .any e = true → isD listed e.on = true)
include cn hall tm tr di ho hni hr

/-- A writer comes up. -/
theorem di_wr (hP : okProg C.P = true) (hF : SoundF C.P C.F) (hw : isWriter o = true) {K : Act → World → Prop}
    (hK : ∀ ι' m' a' w', DI E0 ops c St (listed.setIfInBounds i true) ι' m' a' w' → K a' w') : wpOp C.P ops Q i K a w := by
  have hisz : i < ops.size := (Array.getElem?_eq_some_iff.1 ho).1
  have hil : i < listed.size := by rw [di.size]; exact hisz
  obtain ⟨k, hk⟩ := List.getElem?_of_mem (hall i hisz)
  have hkl : k < c.length := (List.getElem?_eq_some_iff.1 hk).1
  have hkm : k = m := by
    rcases Nat.lt_trichotomy k m with h | h | h
    · have := di.w1 k i h hk (by rw [wr_iff ho]; exact hw)
      rw [hni] at this; cases this
    · exact h
    · exfalso
      rcases di.w3 with h1 | ⟨j, h1, h2⟩
      · omega
      · obtain ⟨p', j', e1, e2, e3, e4, e5⟩ := cn.wr k i m j hk h h1 h2
        have := di.w2 p' j' e3 (di.up.ready ho hr e5)
        omega
  subst hkm
  obtain ⟨o', b, ho', hb, hs⟩ := tr.step k i hk
  rw [ho] at ho'; cases ho'
  have hread := read_ok cn tm tr di hk ho hni hr
  have hwant : Region.wanted o (yielded ops a.tmps) = b := wanted_ok di.slots (by rw [wantedA_congr hread]; exact hb)
  obtain ⟨m, hkm, hmc, hnw, hm3⟩ := next_wr ops c _ (k + 1) rfl (by omega)
  unfold stepA at hs
  rw [ho] at hs
  simp only [hb] at hs
  unfold wpOp
  rw [ho]
  simp only
  rw [hwant]
  have rest : ∀ (ι' : Nat → Option (Nat × Nat)) (v : AV) (cv : Value) (w' : World), (∀ t, o.dst = some t → t < (St 0).t.length → (St (k + 1)).t.getD t .undef = v) → Sim ⟨ι', (St (k + 1)).h, w', E0.X⟩ → Ext ⟨ι, (St k).h, w, E0.X⟩ ⟨ι', (St (k + 1)).h, w', E0.X⟩ → Wd w w' → VR ⟨ι', (St (k + 1)).h, w', E0.X⟩ v cv →
      (∀ j ob, ι j = none → (St k).h[j]? = some ob → ob ≠ .dead → ι' j = none ∧ (St (k + 1)).h[j]? = some ob) → DI E0 ops c St (listed.setIfInBounds i true) ι' m (a.put o.dst cv) w' := by
    intro ι' v cv w' hv s' x' wd' vr hunt
    obtain ⟨s2, x2, hholes⟩ := pad_to (E0 := E0) tr hkm hmc hnw s'
    obtain ⟨l, hl⟩ := app_to tr m hkm hmc hnw
    refine ⟨by simpa using di.size, up_set hil di ho hr, hmc, fun p j hp hj hwj => ?_, fun p j hj hd => ?_, hm3, s2, (di.ext.trans x').trans x2, di.wd.trans wd', by rw [put_defers]; exact di.df,
      slots_set cn tm di hk ho hni hv hil (VL.ext (x'.trans x2) _ _ di.slots) (VR.ext x2 _ _ vr), fun k' j hk' hj hd hwj hg => ?_⟩
    · rw [isD_set hil]
      rcases Nat.lt_trichotomy p k with h | h | h
      · rw [di.w1 p j h hj hwj]; rfl
      · subst h; rw [hk] at hj; cases hj; simp
      · have := hnw p j (by omega) hp hj
        rw [hwj] at this; cases this
    · rw [isD_set hil, Bool.or_eq_true] at hd
      rcases hd with hd | hd
      · have := di.w2 p j hj hd; omega
      · have : j = i := by simpa using hd
        subst this
        have := cn.inj p k j hj hk
        omega
    · rw [isD_set hil, Bool.or_eq_false_iff] at hd
      rcases Nat.lt_trichotomy k' k with h | h | h
      · obtain ⟨h1, ob, h2, h3, h4⟩ := di.holes k' j h hj hd.1 hwj hg
        obtain ⟨g1, g2⟩ := hunt _ ob h1 h4 h3
        refine ⟨g1, ob, h2, h3, ?_⟩
        rw [hl, List.getElem?_append, if_pos (List.getElem?_eq_some_iff.1 g2).1]
        exact g2
      · subst h; rw [hk] at hj; cases hj
        rw [wr_iff ho, hw] at hwj; cases hwj
      · exact hholes k' j (by omega) hk' hj hg
  split at hs
  · rename_i hbt
    rw [Option.map_eq_some_iff] at hs
    obtain ⟨⟨v, h1⟩, h2, h3⟩ := hs
    unfold opA at h2
    rw [if_pos hw] at h2
    rw [hbt, if_pos rfl]
    left
    have hh1 : (St (k + 1)).h = h1 := by rw [← h3, put_h]
    have hdst : ∀ t, o.dst = some t → t < (St 0).t.length → (St (k + 1)).t.getD t .undef = v := fun t ht hlt => by
      rw [← h3]
      have hl := st_len tr k (by omega)
      unfold S.put
      rw [ht]
      show ((St k).t.set t v).getD t .undef = v
      rw [List.getD_eq_getElem?_getD, List.getElem?_set, if_pos rfl, if_pos (by rw [hl]; exact hlt)]
      rfl
    have hwr : wrA C (ev ((List.range (St 0).t.length).map (slotV ops c St (isD listed) c.length))) (St k).h o = some (v, h1) := by
      rw [wrA_congr (ev_congr hread)]; exact h2
    refine wr_ok (E := ⟨ι, (St k).h, w, E0.X⟩) hP hF di.sim di.slots hwr fun cv w' ι' af => ?_
    refine hK ι' m _ w' (rest ι' v cv w' hdst (by rw [hh1]; exact af.sim) (by rw [hh1]; exact af.ext) af.wd (by rw [hh1]; exact af.vr) (fun j ob hj hob hd => by rw [hh1]; exact af.unt j ob hj hob hd))
  · rename_i hbf
    rw [if_neg hbf]
    have hst := Option.some.inj hs
    have hh1 : (St (k + 1)).h = (St k).h := by rw [← hst, put_h]
    refine hK ι m _ w (rest ι .undef undef w (fun t ht hlt => ?_) (by rw [hh1]; exact di.sim) (by rw [hh1]; exact Ext.refl _) (Wd.refl _) (by simp [AV.undef, undef, VR, VL]) (fun j ob hj hob _ => by rw [hh1]; exact ⟨hj, hob⟩))
    rw [← hst]
    have hl := st_len tr k (by omega)
    unfold S.put
    rw [ht]
    show ((St k).t.set t .undef).getD t .undef = .undef
    rw [List.getD_eq_getElem?_getD, List.getElem?_set, if_pos rfl, if_pos (by rw [hl]; exact hlt)]
    rfl
end

/-- Whatever comes up. -/
theorem any_ok (hP : okProg C.P = true) (hF : SoundF C.P C.F) (cn : Canon ops c) (hall : ∀ i, i < ops.size → i ∈ c) (tm : tmpOk ops (Region.before ops) = true) (tr : Trace C ops c St)
    (hQ : ∀ a' w', Inv E0 (St c.length) a' w' → Q .normal a' w') : ∀ (fuel : Nat) {listed : Array Bool} {ι : Nat → Option (Nat × Nat)} {m : Nat} {a : Act} {w : World}, DI E0 ops c St listed ι m a w → listed.toList.count false ≤ fuel →
    wpAny C.P .any ops Q fuel listed a w := by
  have fin : ∀ {listed : Array Bool} {ι : Nat → Option (Nat × Nat)} {m : Nat} {a : Act} {w : World}, DI E0 ops c St listed ι m a w → Region.ready .any ops listed = [] → Q .normal a w := by
    intro listed ι m a w di hre
    have hD : ∀ (k i : Nat), c[k]? = some i → isD listed i = true := by
      intro k
      induction k using Nat.strongRecOn with
      | _ k ih =>
        intro i hk
        cases hd : isD listed i with
        | true => rfl
        | false =>
          exfalso
          have hi := cn.lt k i hk
          have ho : ops[i]? = some ops[i] := Array.getElem?_eq_getElem hi
          have : i ∈ Region.ready .any ops listed := mem_ready.2 ⟨by
            unfold isD at hd
            rw [Array.getD_eq_getD_getElem?] at hd ⊢
            have hlt : i < listed.size := by rw [di.size]; exact hi
            rw [Array.getElem?_eq_getElem hlt] at hd ⊢
            exact hd, ops[i], ho, fun e he hb => by
            have hbit : ((Region.before ops).getD i 0).testBit e.on = true := (before_bit ho e.on).2 ⟨e, he, hb, .inl rfl⟩
            obtain ⟨k', hk', hc'⟩ := cn.bf k i e.on hk hbit
            exact ih k' hk' e.on hc'⟩
          rw [hre] at this
          cases this
    have hm : m = c.length := by
      rcases di.w3 with h | ⟨i, h1, _⟩
      · exact h
      · have := di.w2 m i h1 (hD m i h1)
        omega
    subst hm
    refine hQ a w ⟨ι, di.sim, ?_, di.ext, di.wd, di.df⟩
    have he : (List.range (St 0).t.length).map (slotV ops c St (isD listed) c.length) = (St c.length).t := by
      apply List.ext_getElem?
      intro x
      have hlen := st_len tr c.length (Nat.le_refl _)
      rw [List.getElem?_map]
      by_cases hx : x < (St 0).t.length
      · rw [List.getElem?_range hx]
        simp only [Option.map_some]
        rw [slot_congr (d' := fun _ => true) c.length fun p i _ h2 _ => hD p i h2, slot_true tr x c.length (Nat.le_refl _), List.getD_eq_getElem?_getD, List.getElem?_eq_getElem (l := (St c.length).t) (i := x) (by omega)]
        rfl
      · rw [List.getElem?_eq_none (l := List.range _) (i := x) (by simp; omega), List.getElem?_eq_none (l := (St c.length).t) (i := x) (by omega)]
        rfl
    rw [← he]; exact di.slots
  intro fuel
  induction fuel with
  | zero =>
    intro listed ι m a w di hc
    have hre : Region.ready .any ops listed = [] := by
      cases hr : Region.ready .any ops listed with
      | nil => rfl
      | cons x l =>
        exfalso
        have hx : x ∈ Region.ready .any ops listed := by rw [hr]; simp
        obtain ⟨h1, o, ho, _⟩ := mem_ready.1 hx
        have hlt : x < listed.size := by rw [di.size]; exact (Array.getElem?_eq_some_iff.1 ho).1
        rw [Array.getD_eq_getD_getElem?, Array.getElem?_eq_getElem hlt] at h1
        have hm : false ∈ listed.toList := List.mem_of_getElem? (i := x) (by rw [Array.getElem?_toList, Array.getElem?_eq_getElem hlt]; simpa using h1)
        have := List.count_pos_iff.2 hm
        omega
    exact ⟨hre, fin di hre⟩
  | succ fuel ih =>
    intro listed ι m a w di hc
    refine ⟨fun hre => fin di hre, fun i hi => ?_⟩
    obtain ⟨h1, o, ho, hr⟩ := mem_ready.1 hi
    have hlt : i < listed.size := by rw [di.size]; exact (Array.getElem?_eq_some_iff.1 ho).1
    have hget : listed[i] = false := by
      rw [Array.getD_eq_getD_getElem?, Array.getElem?_eq_getElem hlt] at h1
      exact h1
    have hni : isD listed i = false := by
      unfold isD
      rw [Array.getD_eq_getD_getElem?, Array.getElem?_eq_getElem hlt]
      exact hget
    have hcount : (listed.setIfInBounds i true).toList.count false ≤ fuel := by
      rw [Array.toList_setIfInBounds, List.count_set (by simpa using hlt)]
      have hge : listed.toList[i]'(by simpa using hlt) = false := by simpa using hget
      rw [hge]
      show listed.toList.count false - 1 + 0 ≤ fuel
      omega
    cases hw : isWriter o with
    | false => exact di_nw cn hall tm tr di ho hni hr hw fun ι' a' w' di' => ih di' hcount
    | true => exact di_wr cn hall tm tr di ho hni hr hP hF hw fun ι' m' a' w' di' => ih di' hcount

theorem draw_ok (hP : okProg C.P = true) (hF : SoundF C.P C.F) {st st' : S} {a : Act} {w : World} (hi : Inv E0 st a w) (hc : canonOk ops (Region.before ops) (canon ops) 0 none = true) (tm : tmpOk ops (Region.before ops) = true)
    (h : runD C ops (Region.before ops) (canon ops) [] st = some st') (hQ : ∀ a' w', Inv E0 st' a' w' → Q .normal a' w') : wpAny C.P .any ops Q ops.size (Array.replicate ops.size false) a { w with drawn := w.drawn + 1 } := by
  obtain ⟨cn, hall⟩ := canon_all hc
  obtain ⟨St, e1, e2, tr, _⟩ := trace_of (canon ops) [] st st' h
  obtain ⟨ι, s, ht, x, wd, hd⟩ := hi
  obtain ⟨m, hm0, hmc, hnw, hm3⟩ := next_wr ops (canon ops) _ 0 rfl (Nat.zero_le _)
  have hD0 : ∀ i, isD (Array.replicate ops.size false) i = false := fun i => by
    unfold isD
    rw [Array.getD_eq_getD_getElem?, Array.getElem?_replicate]
    split <;> rfl
  have hx : Ext (⟨ι, st.h, w, E0.X⟩ : En) ⟨ι, st.h, { w with drawn := w.drawn + 1 }, E0.X⟩ := by
    refine ⟨fun o ob ho => ⟨ob, ho, .inr ⟨rfl, fun p hp => hp, fun _ _ _ _ _ _ _ _ h1 h2 => (by rw [h1] at h2; cases h2; rfl)⟩⟩, fun b hb => ⟨⟨hb.1, hb.2⟩, rfl⟩, fun j b c hj => .inr ⟨j, c, hj⟩, Nat.le_refl _, rfl⟩
  have s1 : Sim ⟨ι, st.h, { w with drawn := w.drawn + 1 }, E0.X⟩ := ⟨s.inj, s.lt, fun i b c ob hi ho => OR.ext hx rfl ob (s.obj i b c ob hi ho), s.nx, s.xlt⟩
  rw [← e1] at s1 hx
  obtain ⟨s2, x2, hholes⟩ := pad_to (E0 := E0) tr hm0 hmc hnw s1
  have di : DI E0 ops (canon ops) St (Array.replicate ops.size false) ι m a { w with drawn := w.drawn + 1 } := by
    refine ⟨by simp, ⟨fun i h => (by rw [hD0] at h; cases h), fun i o h => (by rw [hD0] at h; cases h)⟩, hmc, fun p i hp hj hwj => ?_, fun p i _ h => (by rw [hD0] at h; cases h), hm3, s2, ?_, ⟨wd.os, wd.tape, wd.output, wd.size⟩, hd, ?_, fun k i hk hj _ _ hg => hholes k i (Nat.zero_le _) hk hj hg⟩
    · have := hnw p i (Nat.zero_le _) hp hj
      rw [hwj] at this; cases this
    · rw [← e1] at x
      exact (x.trans hx).trans x2
    · have he : (List.range (St 0).t.length).map (slotV ops (canon ops) St (isD (Array.replicate ops.size false)) (canon ops).length) = (St 0).t := by
        apply List.ext_getElem?
        intro y
        rw [List.getElem?_map]
        by_cases hy : y < (St 0).t.length
        · rw [List.getElem?_range hy]
          simp only [Option.map_some]
          rw [slot_none (k := 0) _ (Nat.zero_le _) fun p i _ _ _ _ => hD0 i]
          show some ((St 0).t.getD y .undef) = _
          rw [List.getD_eq_getElem?_getD, List.getElem?_eq_getElem hy]; rfl
        · rw [List.getElem?_eq_none (l := List.range _) (i := y) (by simp; omega), List.getElem?_eq_none (l := (St 0).t) (i := y) (by omega)]
          rfl
      rw [he]
      rw [← e1] at ht
      exact VL.ext (hx.trans x2) _ _ ht
  exact any_ok hP hF cn hall tm tr (by rw [e2]; exact hQ) ops.size di (by simp [List.count_replicate])

theorem region_ok (hP : okProg C.P = true) (hF : SoundF C.P C.F) {id : Nat} {draw : Bool} {st st' : S} {a : Act} {w : World} (hi : Inv E0 st a w) (h : regionA C ops draw st = some st')
    (hQ : ∀ a' w', Inv E0 st' a' w' → Q .normal a' w') : (Code.region id ops draw).wp C.P Q a w := by
  unfold regionA at h
  cases draw with
  | false =>
    rw [if_neg (by simp)] at h
    exact wp_region (runOps_ok hP hF _ hi h hQ)
  | true =>
    rw [if_pos rfl] at h
    split at h
    · rename_i hc
      rw [Bool.and_eq_true] at hc
      have hm : C.P.follows .mixedOrders = true := by
        have := hP
        unfold okProg at this
        rw [Bool.and_eq_true] at this
        exact this.1
      exact wp_region_any hm (draw_ok hP hF hi hc.1 hc.2 h hQ)
    · cases h
end
end Go.Proofs.YtiemjcchlfbglaaGreatE
/- Code and functions: what 'run' answers, the calls answer. -/
namespace Go.Proofs.YtiemjcchlfbglaaGreatE
open Go

theorem only_ok {E : En} : ∀ (i : Nat) (ks : List Nat) (t : List AV) (cs : List Value), VL E t cs → VL E (only i ks t) cs
  | _, _, [], [], _ => by simp only [only, VL]
  | _, _, [], _ :: _, h => by simp [VL] at h
  | _, _, _ :: _, [], h => by simp [VL] at h
  | i, [], v :: t, c :: cs, h => by
    simp only [VL] at h
    simp only [only, VL]
    exact ⟨by simp only [VR], only_ok (i + 1) [] t cs h.2⟩
  | i, k :: ks, v :: t, c :: cs, h => by
    simp only [VL] at h
    simp only [only]
    split
    · simp only [VL]; exact ⟨h.1, only_ok (i + 1) ks t cs h.2⟩
    · simp only [VL]; exact ⟨by simp only [VR], only_ok (i + 1) (k :: ks) t cs h.2⟩

/-- The objects that were given keep their numbers. -/
theorem gc_ext {E0 E : En} (x : Ext E0 E) (s : Sim E) {σ l : List Nat} (hσ : σ = List.range E0.h.length ++ l) (hn : σ.Nodup) : Sim (reE E σ E.X) ∧ Ext E0 (reE E σ E.X) ∧ Mp (idx · σ) E (reE E σ E.X) := by
  obtain ⟨s1, m, q⟩ := reix_ok s hn E.X (fun _ h => h.2) (fun i b c _ h => s.nx i b c h) s.xlt
  refine ⟨s1, ⟨fun o ob ho => ?_, fun b hb => ?_, fun j b c hj => ?_, x.sz, x.ex⟩, m⟩
  · have hlt : o < E0.h.length := (List.getElem?_eq_some_iff.1 ho).1
    obtain ⟨ob', h1, hd⟩ := x.cls o ob ho
    have hso : σ[o]? = some o := by rw [hσ, List.getElem?_append, if_pos (by simpa using hlt), List.getElem?_range hlt]
    obtain ⟨k1, k2⟩ := m.map o o ob' (idx_of hn hso) h1
    refine ⟨_, k1, ?_⟩
    rcases hd with rfl | ⟨d1, d2, d3⟩
    · exact .inl rfl
    · refine .inr ⟨by rw [mapO_cls]; exact d1, fun p hp => k2 p (d2 p hp), fun md e sh rs md' e' sh' rs' e1 e2 => ?_⟩
      subst e1
      obtain ⟨md1, e1', rs1, rfl⟩ := cls_arr d1
      have l1 := d3 _ _ _ _ _ _ _ _ rfl rfl
      have l2 := mapO_len rfl e2
      omega
  · obtain ⟨k1, k2⟩ := x.st b hb
    exact ⟨q b k1, k2⟩
  · have hj : (σ[j]?).bind E.ι = some (b, c) := hj
    rw [Option.bind_eq_some_iff] at hj
    obtain ⟨i, _, h2⟩ := hj
    exact x.rng i b c h2

theorem gcS_ok {E0 : En} {st : S} {a : Act} {w : World} (hi : Inv E0 st a w) (keep : List Nat) : Inv E0 (gcS E0.h.length keep st) a w := by
  obtain ⟨ι, s, ht, x, wd, hd⟩ := hi
  obtain ⟨l, hl⟩ := collect_prefix st.h 1000 (rootsN st.h E0.h.length ++ refsL (only 0 keep st.t)) (List.range E0.h.length)
  have hn : (collect st.h 1000 (rootsN st.h E0.h.length ++ refsL (only 0 keep st.t)) (List.range E0.h.length)).Nodup := collect_nodup _ _ _ _ List.nodup_range
  obtain ⟨s1, x1, m⟩ := gc_ext x s hl hn
  exact ⟨_, s1, VL.map m _ _ (only_ok 0 keep _ _ ht), x1, wd, hd⟩

theorem gcO_ok {E0 : En} {st : S} {a : Act} {w : World} {n : Nat} (hn : n = E0.h.length) (hi : Inv E0 st a w) : ∀ l, Inv E0 (gcO n l st) a w
  | none => hi
  | some l => by rw [hn]; exact gcS_ok hi l

def Ex.to : Ex → Exit
  | .nrm => .normal
  | .exit id => .exit id
  | .ret => .ret

section
variable {C : Ctx} {E0 : En}

theorem iter_ok (hn0 : C.n0 = E0.h.length) {c : Code} (body : S → Option (Ex × S)) (keep : List Nat)
    (hb : ∀ {st : S} {ex : Ex} {st' : S} {a : Act} {w : World} {Q : Exit → Act → World → Prop}, body st = some (ex, st') → Inv E0 st a w → (∀ a' w', Inv E0 st' a' w' → Q ex.to a' w') → c.wp C.P Q a w) :
    ∀ (n : Nat) {st : S} {ex : Ex} {st' : S} {a : Act} {w : World} {Q : Exit → Act → World → Prop}, iter body (gcS C.n0 keep) n st = some (ex, st') → Inv E0 st a w → (∀ a' w', Inv E0 st' a' w' → Q ex.to a' w') → Code.rounds C.P c Q n a w
  | 0, _, _, _, _, _, _, h, _, _ => by simp [iter] at h
  | n + 1, st, ex, st', a, w, Q, h, hi, hQ => by
    rw [rounds_succ]
    simp only [iter] at h
    have hg : Inv E0 (gcS C.n0 keep st) a w := by rw [hn0]; exact gcS_ok hi keep
    split at h
    · rename_i st1 h1
      exact hb h1 hg fun a' w' hi' => iter_ok hn0 body keep hb n h hi' hQ
    · rename_i hne
      cases hb1 : body (gcS C.n0 keep st) with
      | none => rw [hb1] at h; cases h
      | some r =>
        rw [hb1] at h; cases h
        refine hb hb1 hg fun a' w' hi' => ?_
        cases ex with
        | nrm => exact absurd hb1 (hne st')
        | exit id => exact hQ a' w' hi'
        | ret => exact hQ a' w' hi'

theorem exec_ok (hP : okProg C.P = true) (hF : SoundF C.P C.F) (hn0 : C.n0 = E0.h.length) : ∀ (c : Code) {st : S} {ex : Ex} {st' : S} {a : Act} {w : World} {Q : Exit → Act → World → Prop}, exec C c st = some (ex, st') → Inv E0 st a w →
    (∀ a' w', Inv E0 st' a' w' → Q ex.to a' w') → c.wp C.P Q a w
  | .skip, st, ex, st', a, w, Q, h, hi, hQ => by simp [exec] at h; obtain ⟨rfl, rfl⟩ := h; exact wp_skip (hQ a w hi)
  | .region id ops draw, st, ex, st', a, w, Q, h, hi, hQ => by
    simp only [exec] at h
    rw [Option.map_eq_some_iff] at h
    obtain ⟨st1, h1, h2⟩ := h
    cases h2
    exact region_ok hP hF hi h1 hQ
  | .seq x y, st, ex, st', a, w, Q, h, hi, hQ => by
    simp only [exec] at h
    refine wp_seq ?_
    split at h
    · rename_i st1 h1
      exact exec_ok hP hF hn0 x h1 hi fun a' w' hi' => exec_ok hP hF hn0 y h hi' hQ
    · rename_i hne
      cases h1 : exec C x st with
      | none => rw [h1] at h; cases h
      | some r =>
        rw [h1] at h; cases h
        refine exec_ok hP hF hn0 x h1 hi fun a' w' hi' => ?_
        cases ex with
        | nrm => exact absurd h1 (hne st')
        | exit id => exact hQ a' w' hi'
        | ret => exact hQ a' w' hi'
  | .cond c x y, st, ex, st', a, w, Q, h, hi, hQ => by
    simp only [exec] at h
    split at h
    · rename_i b hb
      have hc : a.eval c = .bool b := by
        obtain ⟨ι, _, ht, _⟩ := hi
        have := ev_ok ht c
        rw [hb] at this
        simpa only [VR] using this
      refine wp_cond hc ?_
      split at h
      · rename_i hbt
        rw [if_pos hbt]
        exact exec_ok hP hF hn0 x h hi hQ
      · rename_i hbf
        rw [if_neg hbf]
        exact exec_ok hP hF hn0 y h hi hQ
    · cases h
  | .block id c, st, ex, st', a, w, Q, h, hi, hQ => by
    simp only [exec] at h
    refine wp_block ?_
    split at h
    · rename_i j st1 h1
      refine exec_ok hP hF hn0 c h1 hi fun a' w' hi' => ?_
      show (if j = id then _ else _)
      split at h
      · rename_i hj; cases h; rw [if_pos hj]; exact hQ a' w' hi'
      · rename_i hj; cases h; rw [if_neg hj]; exact hQ a' w' hi'
    · rename_i hne
      cases h1 : exec C c st with
      | none => rw [h1] at h; cases h
      | some r =>
        rw [h1] at h; cases h
        refine exec_ok hP hF hn0 c h1 hi fun a' w' hi' => ?_
        cases ex with
        | nrm => exact hQ a' w' hi'
        | exit id' => exact absurd h1 (hne id' st')
        | ret => exact hQ a' w' hi'
  | .loop c, st, ex, st', a, w, Q, h, hi, hQ => by
    simp only [exec] at h
    exact wp_loop_rounds C.lk (iter_ok hn0 (exec C c) _ (fun h1 hi1 hQ1 => exec_ok hP hF hn0 c h1 hi1 hQ1) C.lk h hi hQ)
  | .exit id, st, ex, st', a, w, Q, h, hi, hQ => by simp [exec] at h; obtain ⟨rfl, rfl⟩ := h; exact wp_exit (hQ a w (gcO_ok hn0 hi _))
  | .ret, st, ex, st', a, w, Q, h, hi, hQ => by simp [exec] at h; obtain ⟨rfl, rfl⟩ := h; exact wp_ret (hQ a w (gcO_ok hn0 hi _))
  | .rangeFunc _ _ _ _, _, _, _, _, _, _, h, _, _ => by simp [exec] at h
  | .scope _, _, _, _, _, _, _, h, _, _ => by simp [exec] at h
  | .label _, _, _, _, _, _, _, h, _, _ => by simp [exec] at h
  | .goto _, _, _, _, _, _, _, h, _, _ => by simp [exec] at h
  | .refuse _, _, _, _, _, _, _, h, _, _ => by simp [exec] at h
end

section
variable {P : Program} {E : En}

theorem res_ok {st : S} {a : Array Value} (s : Sim E) (hh : E.h = st.h) (ht : VL E st.t a.toList) {r : ResultVar} {v : AV} (h : resA P st r = some v) :
    ∃ cv, (match r with | .tmp t => (pure (a.getD t undef) : Sem Value) | .cell p t => do loadVar t (← asAddr (a.getD p undef))).run P E.w = .ok cv E.w ∧ VR E v cv := by
  have hget : ∀ i, VR E (st.t.getD i .undef) (a.getD i undef) := fun i => by
    have := ev_ok (a := ⟨a, []⟩) ht (.tmp i)
    exact this
  cases r with
  | tmp t =>
    simp only [resA] at h
    cases h
    exact ⟨_, rfl, hget t⟩
  | cell p t =>
    simp only [resA] at h
    rw [← hh] at h
    obtain ⟨cv, hr, hv⟩ := loadA_ok s (hget p) h
    refine ⟨cv, ?_, hv⟩
    simp only [Sem.run_bind]
    simp only [Instr.loadAt, Sem.run_bind] at hr
    cases hp : a.getD p undef <;> rw [hp] at hr <;> try (simp [Instr.sureAddr] at hr; done)
    rename_i q
    cases q with
    | none => simp [Instr.sureAddr] at hr
    | some q => simpa [Instr.sureAddr, asAddr] using hr

def resM (a : Array Value) : ResultVar → Sem Value
  | .tmp t => pure (a.getD t undef)
  | .cell p t => do loadVar t (← asAddr (a.getD p undef))
theorem results_ok {st : S} {fn : Func} {a : Array Value} (s : Sim E) (hh : E.h = st.h) (ht : VL E st.t a.toList) {v : AV} (h : resultsA P st fn.results.toList = some v) : ∃ cv, (results fn a).run P E.w = .ok cv E.w ∧ VR E v cv := by
  have hall : ∀ (l : List ResultVar) (vs : List AV), l.mapM (resA P st) = some vs → ∃ cs : List Value, (l.mapM (resM a)).run P E.w = .ok cs E.w ∧ VL E vs cs := by
    intro l
    induction l with
    | nil => intro vs hv; simp at hv; subst hv; exact ⟨[], by simp, by simp [VL]⟩
    | cons r l ih =>
      intro vs hv
      simp only [List.mapM_cons, Option.bind_eq_bind, Option.pure_def] at hv
      rw [Option.bind_eq_some_iff] at hv
      obtain ⟨u, h1, hv⟩ := hv
      rw [Option.bind_eq_some_iff] at hv
      obtain ⟨us, h2, hv⟩ := hv
      cases hv
      obtain ⟨cv, hr, hu⟩ := res_ok (P := P) s hh ht h1
      have hr : (resM a r).run P E.w = .ok cv E.w := by cases r <;> exact hr
      obtain ⟨cs, hrs, hus⟩ := ih us h2
      refine ⟨cv :: cs, ?_, by simp only [VL]; exact ⟨hu, hus⟩⟩
      simp only [List.mapM_cons, Sem.run_bind, hr, Result.andThen_ok, hrs, Sem.run_pure]
  have hform : ∃ vs, fn.results.toList.mapM (resA P st) = some vs ∧ v = (match vs with | [u] => u | _ => .tup vs) := by
    unfold resultsA at h
    split at h
    · rename_i r hr
      exact ⟨[v], by rw [hr]; simp [h], rfl⟩
    · rename_i hne
      rw [Option.map_eq_some_iff] at h
      obtain ⟨vs, h1, rfl⟩ := h
      refine ⟨vs, h1, ?_⟩
      have hlen : vs.length = fn.results.toList.length := by
        have : ∀ (l : List ResultVar) (vs : List AV), l.mapM (resA P st) = some vs → vs.length = l.length := by
          intro l
          induction l with
          | nil => intro vs hv; simp at hv; subst hv; rfl
          | cons r l ih =>
            intro vs hv
            simp only [List.mapM_cons, Option.bind_eq_bind, Option.pure_def] at hv
            rw [Option.bind_eq_some_iff] at hv
            obtain ⟨u, _, hv⟩ := hv
            rw [Option.bind_eq_some_iff] at hv
            obtain ⟨us, h2, hv⟩ := hv
            cases hv
            simp [ih us h2]
        exact this _ _ h1
      match vs, hlen with
      | [], _ => rfl
      | [u], hlen =>
        exfalso
        match hr : fn.results.toList, hlen with
        | [r], _ => exact hne r hr
        | [], h => simp at h
        | _ :: _ :: _, h => simp at h
      | _ :: _ :: _, _ => rfl
  obtain ⟨vs, h1, rfl⟩ := hform
  obtain ⟨cs, hr, hvs⟩ := hall _ vs h1
  refine ⟨if h : cs.toArray.size = 1 then cs.toArray[0] else .tuple cs.toArray, ?_, ?_⟩
  · unfold results
    rw [Array.mapM_eq_mapM_toList]
    have hfun : (fun (r : ResultVar) => (match r with | .tmp t => pure (a.getD t undef) | .cell p t => do loadVar t (← asAddr (a.getD p undef)) : Sem Value)) = resM a := by funext r; cases r <;> rfl
    have hr2 : (List.mapM (fun (r : ResultVar) => (match r with | .tmp t => pure (a.getD t undef) | .cell p t => do loadVar t (← asAddr (a.getD p undef)) : Sem Value)) fn.results.toList).run P E.w = .ok cs E.w := by rw [hfun]; exact hr
    simp only [Sem.run_bind, Sem.run_map]
    erw [hr2]
    rfl
  · match vs, cs, hvs with
    | [u], [c], hvs => simp only [VL] at hvs; exact hvs.1
    | [], [], _ => simp [VR, VL]
    | u :: u' :: us, c :: c' :: cs, hvs =>
      rw [dif_neg (by simp)]
      simp only [VR]
      exact ⟨_, rfl, hvs⟩
    | [], _ :: _, hvs => simp [VL] at hvs
    | [_], [], hvs => simp [VL] at hvs
    | [_], _ :: _ :: _, hvs => simp [VL] at hvs
    | _ :: _ :: _, [], hvs => simp [VL] at hvs
    | _ :: _ :: _, [_], hvs => simp [VL] at hvs

theorem finish_ok {E0 : En} {frz : Option (List (List (List K)))} {v v' : AV} {h' : List AObj} {cv : Value} (s : Sim E) (x : Ext E0 E) (hv : VR E v cv) (h : finish E0.h.length frz E.h v = (v', h')) :
    ∃ ι', Sim ⟨ι', h', E.w, E.X⟩ ∧ Ext E0 ⟨ι', h', E.w, E.X⟩ ∧ VR ⟨ι', h', E.w, E.X⟩ v' cv := by
  have key : ∀ (E1 : En) (u : AV), E1.w = E.w → E1.X = E.X → Sim E1 → Ext E0 E1 → VR E1 u cv → (v', h') = (mapV (idx · (collect E1.h 1000 (rootsN E1.h E0.h.length ++ refsV u) (List.range E0.h.length))) u, (collect E1.h 1000 (rootsN E1.h E0.h.length ++ refsV u) (List.range E0.h.length)).map fun i => mapO (idx · (collect E1.h 1000 (rootsN E1.h E0.h.length ++ refsV u) (List.range E0.h.length))) (E1.h.getD i .dead)) →
      ∃ ι', Sim ⟨ι', h', E.w, E.X⟩ ∧ Ext E0 ⟨ι', h', E.w, E.X⟩ ∧ VR ⟨ι', h', E.w, E.X⟩ v' cv := by
    intro E1 u hw hX s1 x1 hu he
    obtain ⟨l, hl⟩ := collect_prefix E1.h 1000 (rootsN E1.h E0.h.length ++ refsV u) (List.range E0.h.length)
    have hn : (collect E1.h 1000 (rootsN E1.h E0.h.length ++ refsV u) (List.range E0.h.length)).Nodup := collect_nodup _ _ _ _ List.nodup_range
    obtain ⟨s2, x2, m⟩ := gc_ext x1 s1 hl hn
    have hv2 := VR.map m _ _ hu
    cases he
    unfold reE at s2 x2 hv2
    rw [hw, hX] at s2 x2 hv2
    exact ⟨_, s2, x2, hv2⟩
  unfold finish at h
  cases frz with
  | none => exact key E v rfl rfl s x hv (by rw [← h])
  | some hss =>
    obtain ⟨s1, x1⟩ := mark_ok s (slsV v)
    exact key (mkE E (slsV v)) (nlV hss (frV E.h v)) rfl rfl s1 (x.trans x1) (nlV_ok (fr_ok s v cv hv fun _ h => h)) (by rw [← h]; rfl)

/-- What is said of single functions without a walk of their code. -/
def PrOk (P : Program) (H : Hints) : Prop := ∀ g p, H.prim g = some p → SoundF P fun g' args h => if g' = g then p args h else none
/-- **What the interpreter answers, the calls answer.** -/
theorem run_ok (hP : okProg P = true) (H : Hints) (hpr : PrOk P H) : ∀ k, SoundF P (run P H k)
  | 0 => fun g args h v h' hr => by simp [run] at hr
  | k + 1 => fun g args h v h' hr E hh s cargs hargs => by
    subst hh
    simp only [run] at hr
    split at hr
    · rename_i p hp
      exact hpr g p hp g args E.h v h' (by simp only [if_true]; exact hr) E rfl s cargs hargs
    split at hr
    · rename_i fn hf
      split at hr
      · rename_i c hb
        have hinit : Inv E ⟨args ++ List.replicate (fn.ntmps - args.length) .undef, E.h⟩ { tmps := cargs ++ Array.replicate (fn.ntmps - cargs.size) undef, defers := [] } E.w := by
          refine ⟨E.ι, s, ?_, Ext.refl E, Wd.refl _, rfl⟩
          have hl : args.length = cargs.size := by have := hargs.len; simpa using this
          rw [hl, Array.toList_append, Array.toList_replicate]
          refine hargs.app (VL.of (by simp) fun i u c hu hc => ?_)
          rw [List.getElem?_replicate] at hu hc
          split at hu
          · rename_i hi
            rw [if_pos hi] at hc
            cases hu; cases hc
            simp [AV.undef, undef, VR, VL]
          · cases hu
        have hend : ∀ (ex : Ex) (st : S), (ex = .nrm ∨ ex = .ret) → exec ⟨P, run P H k, k, E.h.length, H.keep g, H.keepX g, H.keepR g, H.abs g, H.fz⟩ c ⟨args ++ List.replicate (fn.ntmps - args.length) .undef, E.h⟩ = some (ex, st) →
            (resultsA P st fn.results.toList).map (fun v => finish E.h.length (H.frz g) st.h v) = some (v, h') →
            Calls P g cargs E.w fun e w' => ∃ cv ι', e = .returned cv ∧ Sim ⟨ι', h', w', E.X⟩ ∧ Ext E ⟨ι', h', w', E.X⟩ ∧ Wd E.w w' ∧ VR ⟨ι', h', w', E.X⟩ v cv := by
          intro ex st hex he hres
          refine calls_of_wp hf hb (exec_ok (C := ⟨P, run P H k, k, E.h.length, H.keep g, H.keepX g, H.keepR g, H.abs g, H.fz⟩) (E0 := E) hP (run_ok hP H hpr k) rfl c he hinit fun a' w' hi => ?_)
          obtain ⟨ι, s2, ht2, x2, wd2, hd2⟩ := hi
          rw [Option.map_eq_some_iff] at hres
          obtain ⟨u, hu, hfin⟩ := hres
          obtain ⟨cv, hr2, hv2⟩ := results_ok (P := P) (E := ⟨ι, st.h, w', E.X⟩) (fn := fn) s2 rfl ht2 hu
          obtain ⟨ι', s3, x3, hv3⟩ := finish_ok (E := ⟨ι, st.h, w', E.X⟩) (E0 := E) s2 x2 hv2 hfin
          have hpost : a'.defers = [] ∧ ∃ v', (results fn a'.tmps).run P w' = .ok v' w' ∧ ∃ cv ι', Ending.returned v' = .returned cv ∧ Sim ⟨ι', h', w', E.X⟩ ∧ Ext E ⟨ι', h', w', E.X⟩ ∧ Wd E.w w' ∧ VR ⟨ι', h', w', E.X⟩ v cv :=
            ⟨hd2, cv, hr2, cv, ι', rfl, s3, x3, wd2, hv3⟩
          rcases hex with rfl | rfl
          · exact hpost
          · exact hpost
        split at hr
        · rename_i st he; exact hend .nrm st (.inl rfl) he hr
        · rename_i st he; exact hend .ret st (.inr rfl) he hr
        · cases hr
      · cases hr
    · cases hr
end
end Go.Proofs.YtiemjcchlfbglaaGreatE
/- Path mode: the interpreter with continuations. Checks and branches on what is not known stand as propositions. -/
namespace Go.Proofs.YtiemjcchlfbglaaGreatE
open Go
set_option linter.unusedVariables false

/-- A check, a branch. -/
def chk (p : Prop) [Decidable p] (A : Prop) : Prop := Bool.rec (motive := fun _ => Prop) False A (decide p)
def br (b : Bool) (A B : Prop) : Prop := Bool.rec (motive := fun _ => Prop) B A b
theorem chk_iff {p : Prop} [Decidable p] {A : Prop} : chk p A ↔ p ∧ A := by
  unfold chk
  by_cases h : p
  · rw [decide_eq_true h]; simp [h]
  · rw [decide_eq_false h]; simp [h]
theorem br_t {A B : Prop} : br true A B ↔ A := Iff.rfl
theorem br_f {A B : Prop} : br false A B ↔ B := Iff.rfl
theorem br_iff {b : Bool} {A B : Prop} : br b A B ↔ (b = true ∧ A) ∨ (b = false ∧ B) := by cases b <;> simp [br]
theorem br_intro {b : Bool} {A B : Prop} (h1 : b = true → A) (h2 : b = false → B) : br b A B := by
  cases b
  · exact h2 rfl
  · exact h1 rfl

variable {α β : Type}
def optW (x : Option α) (Q : α → Prop) : Prop := match x with | some a => Q a | none => False
/-- The form with a continuation says what the plain one answers. -/
def OkW (x : Option α) (w : (α → Prop) → Prop) : Prop := ∀ Q, w Q → ∃ a, x = some a ∧ Q a
theorem optW_ok (x : Option α) : OkW x (optW x) := fun Q h => by
  cases x with
  | none => exact h.elim
  | some a => exact ⟨a, rfl, h⟩
theorem OkW.bind {x : Option α} {w : (α → Prop) → Prop} {f : α → Option β} {wf : α → (β → Prop) → Prop} (h1 : OkW x w) (h2 : ∀ a, OkW (f a) (wf a)) :
    OkW (x.bind f) (fun Q => w fun a => wf a Q) := fun Q h => by
  obtain ⟨a, rfl, h⟩ := h1 _ h
  exact h2 a Q h
theorem OkW.map {x : Option α} {w : (α → Prop) → Prop} (f : α → β) (h1 : OkW x w) : OkW (x.map f) (fun Q => w fun a => Q (f a)) := fun Q h => by
  obtain ⟨a, rfl, h⟩ := h1 _ h
  exact ⟨_, rfl, h⟩

/-! ### Scalars -/
def shAW (op : BinOp) (k : IntKind) (x y : Int) (Q : AV → Prop) : Prop := chk (¬ y < 0) (match op with
  | .shl => Q (.int k (k.wrap (x * 2 ^ (min y.toNat k.bits))))
  | .shr => Q (.int k (x.fdiv (2 ^ (min y.toNat k.bits))))
  | _ => False)
theorem shAW_ok (op k x y) : OkW (shA op k x y) (shAW op k x y) := fun Q h => by
  unfold shAW at h
  obtain ⟨h1, h2⟩ := chk_iff.1 h
  unfold shA
  rw [if_neg h1]
  cases op <;> first | exact h2.elim | exact ⟨_, rfl, h2⟩
def intAW (op : BinOp) (k : IntKind) (x y : Int) (Q : AV → Prop) : Prop := match op with
  | .quo => chk (y ≠ 0) (Q (.int k (k.wrap (x.tdiv y))))
  | .rem => chk (y ≠ 0) (Q (.int k (x.tmod y)))
  | op => optW (intA op k x y) Q
theorem intAW_ok (op k x y) : OkW (intA op k x y) (intAW op k x y) := fun Q h => by
  unfold intAW at h
  split at h
  · obtain ⟨h1, h2⟩ := chk_iff.1 h
    exact ⟨_, by simp [intA, h1], h2⟩
  · obtain ⟨h1, h2⟩ := chk_iff.1 h
    exact ⟨_, by simp [intA, h1], h2⟩
  · exact optW_ok _ Q h
def strAW (op : BinOp) (x y : ByteArray) (Q : AV → Prop) : Prop := match op with
  | .add => chk (Nat.ble (x.size + y.size) 9223372036854775807 = true) (Q (.str (x ++ y)))
  | op => optW (strA op x y) Q
theorem strAW_ok (op x y) : OkW (strA op x y) (strAW op x y) := fun Q h => by
  unfold strAW at h
  split at h
  · obtain ⟨h1, h2⟩ := chk_iff.1 h
    refine ⟨_, ?_, h2⟩
    unfold strA
    rw [if_neg]
    have : IntKind.i64.max = 9223372036854775807 := by decide
    rw [this]
    have h1 := Nat.le_of_ble_eq_true h1
    omega
  · exact optW_ok _ Q h
def binAW (P : Program) (op : BinOp) (t : TypeId) (x y : AV) (Q : AV → Prop) : Prop := match x, y with
  | .int k a, .int k' b => match op with
    | .shl => shAW .shl k a b Q
    | .shr => shAW .shr k a b Q
    | op => chk (k = k') (intAW op k a b Q)
  | .str a, .str b => strAW op a b Q
  | x, y => optW (binA P op t x y) Q
theorem binAW_ok (P op t x y) : OkW (binA P op t x y) (binAW P op t x y) := fun Q h => by
  unfold binAW at h
  split at h
  · rename_i k a k' b
    split at h
    · exact shAW_ok _ _ _ _ Q h
    · exact shAW_ok _ _ _ _ Q h
    · rename_i h1 h2
      obtain ⟨h3, h4⟩ := chk_iff.1 h
      subst h3
      have e : binA P op t (.int k a) (.int k b) = intA op k a b := by cases op <;> simp_all [binA]
      rw [e]; exact intAW_ok _ _ _ _ Q h4
  · rename_i a b
    exact strAW_ok op a b Q h
  · exact optW_ok _ Q h

/-! ### What writes nothing -/
def loadAW (P : Program) (h : List AObj) (t : TypeId) (a : AV) (Q : AV → Prop) : Prop := match a with
  | .eptr o i f => match h[o]? with
    | some (.arr _ _ sh rs) => chk (i < rs.length) (chk (f + szOf P t ≤ sh.length) (optW (rdCells P t (rowCells sh (rs.getD i []) f (szOf P t))) Q))
    | _ => False
  | a => optW (loadA P h t a) Q
theorem loadAW_ok (P h t a) : OkW (loadA P h t a) (loadAW P h t a) := fun Q hq => by
  unfold loadAW at hq
  split at hq
  · rename_i o i f
    split at hq
    · rename_i sh rs ho
      obtain ⟨h1, hq⟩ := chk_iff.1 hq
      obtain ⟨h2, hq⟩ := chk_iff.1 hq
      have e : loadA P h t (.eptr o i f) = rdCells P t (rowCells sh (rs.getD i []) f (szOf P t)) := by simp only [loadA, ho]; rw [if_pos ⟨h1, h2⟩]
      rw [e]; exact optW_ok _ Q hq
    · exact hq.elim
  · exact optW_ok _ Q hq
def boundAW (y : Nat) (i : Option AV) (d : Nat) (Q : Nat → Prop) : Prop := match i with
  | none => Q d
  | some (.int _ i) => chk (0 ≤ i ∧ i ≤ y) (Q i.toNat)
  | _ => False
theorem boundAW_ok (y i d) : OkW (boundA y i d) (boundAW y i d) := fun Q h => by
  unfold boundAW at h
  split at h
  · exact ⟨_, rfl, h⟩
  · obtain ⟨h1, h2⟩ := chk_iff.1 h
    exact ⟨_, if_pos h1, h2⟩
  · exact h.elim
def sliceAW (P : Program) (h : List AObj) (t : TypeId) (x : AV) (lo hi mx : Option AV) (Q : AV → Prop) : Prop :=
  match x, mx with
  | .str s, none => match P.underlying t with
    | some .string => boundAW s.size hi s.size fun b => boundAW b lo 0 fun a => Q (.str (s.extract a b))
    | _ => False
  | .row nl sh rs, none => match P.underlying t with
    | some (.slice e) => chk (szOf P e = sh.length ∧ 0 < sh.length) (boundAW rs.length hi rs.length fun b => boundAW b lo 0 fun a => Q (.row nl sh ((rs.take b).drop a)))
    | _ => False
  | .sl o off len, none => match h[o]?, P.underlying t with
    | some (.arr _ _ sh _), some (.slice e) => chk (szOf P e = sh.length ∧ 0 < sh.length) (boundAW len hi len fun b => boundAW b lo 0 fun a => chk (a < b ∨ a = 0) (Q (.sl o (off + a) (b - a))))
    | _, _ => False
  | x, mx => optW (sliceA P h t x lo hi mx) Q
theorem sliceAW_ok (P h t x lo hi mx) : OkW (sliceA P h t x lo hi mx) (sliceAW P h t x lo hi mx) := fun Q hq => by
  unfold sliceAW at hq
  split at hq
  · split at hq
    · rename_i hu
      obtain ⟨b, h1, hq⟩ := boundAW_ok _ _ _ _ hq
      obtain ⟨a, h2, hq⟩ := boundAW_ok _ _ _ _ hq
      exact ⟨_, by simp [sliceA, hu, h1, h2], hq⟩
    · exact hq.elim
  · split at hq
    · rename_i e hu
      obtain ⟨h0, hq⟩ := chk_iff.1 hq
      obtain ⟨b, h1, hq⟩ := boundAW_ok _ _ _ _ hq
      obtain ⟨a, h2, hq⟩ := boundAW_ok _ _ _ _ hq
      exact ⟨_, by simp only [sliceA, hu]; rw [if_pos h0]; simp [h1, h2], hq⟩
    · exact hq.elim
  · split at hq
    · rename_i ho hu
      obtain ⟨h0, hq⟩ := chk_iff.1 hq
      obtain ⟨b, h1, hq⟩ := boundAW_ok _ _ _ _ hq
      obtain ⟨a, h2, hq⟩ := boundAW_ok _ _ _ _ hq
      obtain ⟨h3, hq⟩ := chk_iff.1 hq
      exact ⟨_, by simp only [sliceA, hu, ho]; rw [if_pos h0, h1, Option.bind_some, h2, Option.bind_some, if_pos h3], hq⟩
    · exact hq.elim
  · exact optW_ok _ Q hq
def indexAddrAW (P : Program) (h : List AObj) (t : TypeId) (x i : AV) (Q : AV → Prop) : Prop := match i with
  | .int _ i =>
    match P.underlying t, x with
    | some (.slice e), .row _ sh rs => chk (szOf P e = sh.length) (chk (0 ≤ i ∧ i < (rs.length : Int)) (Q (.rptr sh (rs.getD i.toNat []) 0)))
    | some (.slice e), .sl o off len => match h[o]? with
      | some (.arr _ _ sh _) => chk (szOf P e = sh.length ∧ szOf P e ≠ 0) (chk (0 ≤ i ∧ i < (len : Int)) (Q (.eptr o (off + i.toNat) 0)))
      | _ => False
    | some (.array n e), .ptr o off => match h[o]? with
      | some (.box _) => chk (0 ≤ i ∧ i < (n : Int)) (chk (szOf P e ≠ 0) (Q (.ptr o (off + i.toNat * szOf P e))))
      | _ => False
    | _, _ => False
  | _ => False
theorem indexAddrAW_ok (P h t x i) : OkW (indexAddrA P h t x i) (indexAddrAW P h t x i) := fun Q hq => by
  unfold indexAddrAW at hq
  split at hq
  · rename_i i
    split at hq
    · rename_i hu
      obtain ⟨h1, hq⟩ := chk_iff.1 hq
      obtain ⟨h2, hq⟩ := chk_iff.1 hq
      exact ⟨_, by simp only [indexAddrA, hu]; rw [if_pos h1, if_pos h2], hq⟩
    · rename_i hu
      split at hq
      · rename_i ho
        obtain ⟨h1, hq⟩ := chk_iff.1 hq
        obtain ⟨h2, hq⟩ := chk_iff.1 hq
        exact ⟨_, by simp only [indexAddrA, hu, ho]; rw [if_pos h1, if_pos h2], hq⟩
      · exact hq.elim
    · rename_i hu
      split at hq
      · rename_i ho
        obtain ⟨h1, hq⟩ := chk_iff.1 hq
        obtain ⟨h2, hq⟩ := chk_iff.1 hq
        exact ⟨_, by simp only [indexAddrA, hu, ho]; rw [if_pos ⟨h1.1, h1.2, h2⟩], hq⟩
      · exact hq.elim
    · exact hq.elim
  · exact hq.elim
def indexAW (P : Program) (t : TypeId) (x i : AV) (Q : AV → Prop) : Prop := match x, i with
  | .agg cs, .int _ i => match P.underlying t with
    | some (.array n e) => chk (0 ≤ i ∧ i < (n : Int)) (optW (partA P e cs (i.toNat * szOf P e)) Q)
    | _ => False
  | .str s, .int _ i => match P.underlying t with
    | some .string => chk (0 ≤ i ∧ i < (s.size : Int)) (Q (.int .u8 ((s.data.toList.getD i.toNat 0).toNat : Int)))
    | _ => False
  | _, _ => False
theorem indexAW_ok (P t x i) : OkW (indexA P t x i) (indexAW P t x i) := fun Q hq => by
  unfold indexAW at hq
  split at hq
  · split at hq
    · rename_i hu
      obtain ⟨h1, hq⟩ := chk_iff.1 hq
      obtain ⟨a, h2, hq⟩ := optW_ok _ _ hq
      exact ⟨a, by simp only [indexA, hu]; rw [if_pos h1, h2], hq⟩
    · exact hq.elim
  · split at hq
    · rename_i hu
      obtain ⟨h1, hq⟩ := chk_iff.1 hq
      exact ⟨_, by simp only [indexA, hu]; rw [if_pos h1], hq⟩
    · exact hq.elim
  · exact hq.elim
def makeAW (P : Program) (t : TypeId) (ix : Nat) (l c : AV) (Q : AV × Option AObj → Prop) : Prop := match l, c with
  | .int _ l, .int _ c => match P.underlying t with
    | some (.slice e) => match elemSh P e, zeroA P e with
      | some sh, some z => chk (0 ≤ l ∧ l ≤ c ∧ (P.bytesOf e : Int) * c ≤ 140737488355328) (chk (c ≤ 9223372036854775807) (chk (z.length = sh.length ∧ ((sh.zip z).all fun p => kOk p.1 p.2) = true)
          (Q (.sl ix 0 l.toNat, some (.arr 2 e sh (List.replicate l.toNat z))))))
      | _, _ => False
    | _ => False
  | _, _ => False
theorem makeAW_ok (P t ix l c) : OkW (makeA P t ix l c) (makeAW P t ix l c) := fun Q hq => by
  unfold makeAW at hq
  split at hq
  · split at hq
    · rename_i hu
      split at hq
      · rename_i h1 h2
        obtain ⟨h3, hq⟩ := chk_iff.1 hq
        obtain ⟨h4, hq⟩ := chk_iff.1 hq
        obtain ⟨h5, hq⟩ := chk_iff.1 hq
        exact ⟨_, by simp only [makeA, hu, h1, h2]; rw [if_pos ⟨h3.1, h3.2.1, h3.2.2, h4, h5.1, h5.2⟩], hq⟩
      · exact hq.elim
    · exact hq.elim
  · exact hq.elim
def convAW (P : Program) (h : List AObj) (ix : Nat) (src dst : TypeId) (x : AV) (Q : AV × Option AObj → Prop) : Prop :=
  match P.underlying src, P.underlying dst, x with
  | some .string, some (.slice e), .str s => match P.underlying e with
    | some (.int .u8) => chk (szOf P e = 1) (chk (s.size ≤ 140737488355328) (Q (.sl ix 0 s.size, some (.arr 1 e [.int .u8] (bytesRows s.data.toList)))))
    | _ => False
  | some (.slice e), some .string, .sl o off len => match P.underlying e, h[o]? with
    | some (.int .u8), some (.arr _ _ sh rs) => chk (sh = [.int .u8]) (chk (off + len ≤ rs.length) (Q (.str ⟨(rowsBytes ((rs.drop off).take len)).toArray⟩, none)))
    | _, _ => False
  | _, _, _ => optW (convA P h ix src dst x) Q
theorem convAW_ok (P h ix src dst x) : OkW (convA P h ix src dst x) (convAW P h ix src dst x) := fun Q hq => by
  unfold convAW at hq
  split at hq
  · rename_i hu1 hu2
    split at hq
    · rename_i hu
      obtain ⟨h1, hq⟩ := chk_iff.1 hq
      obtain ⟨h2, hq⟩ := chk_iff.1 hq
      exact ⟨_, by simp only [convA, hu1, hu2, hu]; rw [if_pos ⟨h1, h2⟩], hq⟩
    · exact hq.elim
  · rename_i hu1 hu2
    split at hq
    · rename_i hu ho
      obtain ⟨h1, hq⟩ := chk_iff.1 hq
      obtain ⟨h2, hq⟩ := chk_iff.1 hq
      exact ⟨_, by simp only [convA, hu1, hu2, hu, ho]; rw [if_pos ⟨h1, h2⟩], hq⟩
    · exact hq.elim
  · exact optW_ok _ Q hq
def nwAW (P : Program) (ρ : Operand → AV) (h : List AObj) (ix : Nat) (o : Oper) (Q : AV × Option AObj → Prop) : Prop :=
  match o.op with
  | .pick c a b => match ρ c with | .bool t => br t (Q (ρ a, none)) (Q (ρ b, none)) | _ => False
  | .load t a => loadAW P h t (ρ a) fun v => Q (v, none)
  | .binOp op t x y _ => binAW P op t (ρ x) (ρ y) fun v => Q (v, none)
  | .convert src dst x => convAW P h ix src dst (ρ x) Q
  | .makeSlice t l c => makeAW P t ix (ρ l) (ρ c) Q
  | .slice t x lo hi mx => sliceAW P h t (ρ x) (lo.map ρ) (hi.map ρ) (mx.map ρ) fun v => Q (v, none)
  | .indexAddr t x i => indexAddrAW P h t (ρ x) (ρ i) fun v => Q (v, none)
  | .index t x i => indexAW P t (ρ x) (ρ i) fun v => Q (v, none)
  | _ => optW (nwA P ρ h ix o) Q
theorem nwAW_ok (P ρ h ix o) : OkW (nwA P ρ h ix o) (nwAW P ρ h ix o) := fun Q hq => by
  unfold nwAW at hq
  split at hq
  · rename_i c a b ho
    split at hq
    · rename_i t hc
      rcases br_iff.1 hq with ⟨rfl, hq⟩ | ⟨rfl, hq⟩
      · exact ⟨_, by simp only [nwA, ho, hc]; rfl, hq⟩
      · exact ⟨_, by simp only [nwA, ho, hc]; rfl, hq⟩
    · exact hq.elim
  · rename_i t a ho
    obtain ⟨v, h1, h2⟩ := loadAW_ok _ _ _ _ _ hq
    exact ⟨_, by simp only [nwA, ho, h1]; rfl, h2⟩
  · rename_i ho
    obtain ⟨v, h1, h2⟩ := binAW_ok _ _ _ _ _ _ hq
    exact ⟨_, by simp only [nwA, ho, h1]; rfl, h2⟩
  · rename_i ho
    obtain ⟨v, h1, h2⟩ := convAW_ok _ _ _ _ _ _ _ hq
    exact ⟨_, by simp only [nwA, ho, h1], h2⟩
  · rename_i ho
    obtain ⟨v, h1, h2⟩ := makeAW_ok _ _ _ _ _ _ hq
    exact ⟨_, by simp only [nwA, ho, h1], h2⟩
  · rename_i ho
    obtain ⟨v, h1, h2⟩ := sliceAW_ok _ _ _ _ _ _ _ _ hq
    exact ⟨_, by simp only [nwA, ho, h1]; rfl, h2⟩
  · rename_i ho
    obtain ⟨v, h1, h2⟩ := indexAddrAW_ok _ _ _ _ _ _ hq
    exact ⟨_, by simp only [nwA, ho, h1]; rfl, h2⟩
  · rename_i ho
    obtain ⟨v, h1, h2⟩ := indexAW_ok _ _ _ _ _ hq
    exact ⟨_, by simp only [nwA, ho, h1]; rfl, h2⟩
  · exact optW_ok _ Q hq

/-! ### Writers -/
def storeAW (P : Program) (h : List AObj) (t : TypeId) (a v : AV) (Q : List AObj → Prop) : Prop := match a with
  | .eptr o i f => match v.cells?, h[o]? with
    | some new, some (.arr md e sh rs) => chk (new.length = szOf P t ∧ 0 < new.length) (chk (md ≠ 0 ∧ f + new.length ≤ sh.length ∧ (((sh.drop f).zip new).all fun p => kOk p.1 p.2) = true) (chk (i < rs.length)
          (Q (h.set o (.arr md e sh (rs.set i (setAll (rs.getD i []) f new)))))))
    | _, _ => False
  | a => optW (storeA P h t a v) Q
theorem storeAW_ok (P h t a v) : OkW (storeA P h t a v) (storeAW P h t a v) := fun Q hq => by
  unfold storeAW at hq
  split at hq
  · split at hq
    · rename_i hc ho
      obtain ⟨h1, hq⟩ := chk_iff.1 hq
      obtain ⟨h2, hq⟩ := chk_iff.1 hq
      obtain ⟨h3, hq⟩ := chk_iff.1 hq
      exact ⟨_, by simp only [storeA, hc, ho]; rw [if_pos h1, if_pos ⟨h2.1, h3, h2.2.1, h2.2.2⟩], hq⟩
    · exact hq.elim
  · exact optW_ok _ Q hq
def nextAW (h : List AObj) (a : AV) (Q : AV × List AObj → Prop) : Prop := match a with
  | .ptr o 0 => match h[o]? with
    | some (.iter s pos) => br (decide (pos < s.size)) (Q (.tup [.bool true, .int .i64 pos, .int .i32 (Utf8.decode s pos).1], h.set o (.iter s (pos + (Utf8.decode s pos).2)))) (Q (.tup [.bool false], h))
    | _ => False
  | _ => False
theorem nextAW_ok (h a) : OkW (nextA h a) (nextAW h a) := fun Q hq => by
  unfold nextAW at hq
  split at hq
  · split at hq
    · rename_i ho
      rcases br_iff.1 hq with ⟨h1, hq⟩ | ⟨h1, hq⟩
      · exact ⟨_, by simp only [nextA, ho]; rw [if_pos (of_decide_eq_true h1)], hq⟩
      · exact ⟨_, by simp only [nextA, ho]; rw [if_neg (of_decide_eq_false h1)], hq⟩
    · exact hq.elim
  · exact hq.elim
def rowsOfW (h : List AObj) (sh : List K) (x : AV) (Q : List (List AV) → Prop) : Prop := match x with
  | .sl o off len => match h[o]? with
    | some (.arr _ _ sh' rs) => chk (sh' = sh) (chk (off + len ≤ rs.length) (Q ((rs.drop off).take len)))
    | _ => False
  | x => optW (rowsOf h sh x) Q
theorem rowsOfW_ok (h sh x) : OkW (rowsOf h sh x) (rowsOfW h sh x) := fun Q hq => by
  unfold rowsOfW at hq
  split at hq
  · split at hq
    · rename_i ho
      obtain ⟨h1, hq⟩ := chk_iff.1 hq
      obtain ⟨h2, hq⟩ := chk_iff.1 hq
      exact ⟨_, by simp only [rowsOf, ho]; rw [if_pos ⟨h1, h2⟩], hq⟩
    · exact hq.elim
  · exact optW_ok _ Q hq
def newsOfW (P : Program) (h : List AObj) (e : TypeId) (d : TypeDesc) (sh : List K) (z : List AV) (x : AV) (Q : List (List AV) → Prop) : Prop :=
  match d with
  | .slice _ | .string => rowsOfW h sh x Q
  | .int _ => match x with
    | .int .i64 n => chk (0 ≤ n) (chk (n ≤ 140737488355328) (chk (n * (P.bytesOf e : Int) ≤ 140737488355328) (chk (((sh.zip z).all fun p => kOk p.1 p.2) = true) (Q (List.replicate n.toNat z)))))
    | _ => False
  | _ => False
theorem newsOfW_ok (P h e d sh z x) : OkW (newsOf P h e d sh z x) (newsOfW P h e d sh z x) := fun Q hq => by
  unfold newsOfW at hq
  split at hq
  · exact rowsOfW_ok _ _ _ Q hq
  · exact rowsOfW_ok _ _ _ Q hq
  · split at hq
    · obtain ⟨h1, hq⟩ := chk_iff.1 hq
      obtain ⟨h2, hq⟩ := chk_iff.1 hq
      obtain ⟨h3, hq⟩ := chk_iff.1 hq
      obtain ⟨h4, hq⟩ := chk_iff.1 hq
      exact ⟨_, if_pos ⟨h1, h2, h3, h4⟩, hq⟩
    · exact hq.elim
  · exact hq.elim
def appendAW (P : Program) (h : List AObj) (ts : List TypeId) (s x : AV) (Q : AV × List AObj → Prop) : Prop :=
  match ts with
  | [st, xt] => match P.underlying st, P.underlying xt with
    | some (.slice e), some d => match elemSh P e, zeroA P e with
      | some sh, some z => chk (z.length = sh.length) (newsOfW P h e d sh z x fun news => match s with
          | .nils => br news.isEmpty (Q (.nils, h)) (chk (news.length * P.bytesOf e ≤ 140737488355328) (chk (news.length ≤ 9223372036854775807) (Q (.sl h.length 0 news.length, h ++ [.arr 2 e sh news]))))
          | .sl o 0 len => match h[o]? with
            | some (.arr 2 e' sh' rs) => chk (e' = e ∧ sh' = sh) (chk (len = rs.length) (chk ((rs.length + news.length) * P.bytesOf e ≤ 140737488355328) (chk (rs.length + news.length ≤ 9223372036854775807)
                (Q (.sl h.length 0 (rs.length + news.length), h.set o .dead ++ [.arr 2 e sh (rs ++ news)])))))
            | _ => False
          | _ => False)
      | _, _ => False
    | _, _ => False
  | _ => False
theorem appendAW_ok (P h ts s x) : OkW (appendA P h ts s x) (appendAW P h ts s x) := fun Q hq => by
  unfold appendAW at hq
  split at hq
  · split at hq
    · rename_i hu1 hu2
      split at hq
      · rename_i h1 h2
        obtain ⟨h3, hq⟩ := chk_iff.1 hq
        obtain ⟨news, h4, hq⟩ := newsOfW_ok _ _ _ _ _ _ _ _ hq
        split at hq
        · rcases br_iff.1 hq with ⟨h5, hq⟩ | ⟨h5, hq⟩
          · have h5 := List.isEmpty_iff.1 h5; subst h5
            exact ⟨_, by simp only [appendA, hu1, hu2, h1, h2, h4]; rw [if_pos h3], hq⟩
          · obtain ⟨h6, hq⟩ := chk_iff.1 hq
            obtain ⟨h7, hq⟩ := chk_iff.1 hq
            refine ⟨_, ?_, hq⟩
            simp only [appendA, hu1, hu2, h1, h2, h4]; rw [if_pos h3]
            cases news with
            | nil => simp at h5
            | cons a l => simp only []; rw [if_pos ⟨h6, h7⟩]
        · split at hq
          · rename_i ho
            obtain ⟨h5, hq⟩ := chk_iff.1 hq
            obtain ⟨h6, hq⟩ := chk_iff.1 hq
            obtain ⟨h7, hq⟩ := chk_iff.1 hq
            obtain ⟨h8, hq⟩ := chk_iff.1 hq
            exact ⟨_, by simp only [appendA, hu1, hu2, h1, h2, h4, ho]; rw [if_pos h3, if_pos ⟨h5.1, h5.2, h6, h7, h8⟩], hq⟩
          · exact hq.elim
        · exact hq.elim
      · exact hq.elim
    · exact hq.elim
  · exact hq.elim

def copyAW (P : Program) (h : List AObj) (ts : List TypeId) (d x : AV) (Q : AV × List AObj → Prop) : Prop :=
  match ts with
  | [st, _] => match P.underlying st with
    | some (.slice e) => match elemSh P e, zeroA P e with
      | some sh, some _ => match d with
        | .sl o off len => match h[o]? with
          | some (.arr md e' sh' rs) => match lenS x with
            | some m => chk (md ≠ 0 ∧ e' = e ∧ sh' = sh) (chk (off + len ≤ rs.length) (br (Nat.ble m len)
                (rowsOfW h sh (preS m x) fun news => chk (news.length = m) (Q (.int .i64 (m : Nat), h.set o (.arr md e sh (rs.take off ++ (news ++ rs.drop (off + news.length)))))))
                (rowsOfW h sh (preS len x) fun news => chk (news.length = len) (Q (.int .i64 (len : Nat), h.set o (.arr md e sh (rs.take off ++ (news ++ rs.drop (off + news.length)))))))))
            | none => False
          | _ => False
        | _ => False
      | _, _ => False
    | _ => False
  | _ => False
theorem copyAW_ok (P h ts d x) : OkW (copyA P h ts d x) (copyAW P h ts d x) := fun Q hq => by
  unfold copyAW at hq
  split at hq
  · split at hq
    · rename_i hu
      split at hq
      · rename_i h1 h2
        split at hq
        · split at hq
          · rename_i ho
            split at hq
            · rename_i m hm
              obtain ⟨⟨h3, h4, h5⟩, hq⟩ := chk_iff.1 hq
              obtain ⟨h6, hq⟩ := chk_iff.1 hq
              rcases br_iff.1 hq with ⟨h7, hq⟩ | ⟨h7, hq⟩
              · have h7 := Nat.le_of_ble_eq_true h7
                obtain ⟨news, h8, hq⟩ := rowsOfW_ok _ _ _ _ hq
                obtain ⟨h9, hq⟩ := chk_iff.1 hq
                have hmin : Nat.min m _ = m := Nat.min_eq_left h7
                exact ⟨_, by simp only [copyA, hu, h1, h2, ho, hm, hmin, h8]; rw [if_pos ⟨h3, h4, h5, h6, h9⟩], hq⟩
              · have h7 : ¬ m ≤ _ := fun hh => by rw [Nat.ble_eq_true_of_le hh] at h7; cases h7
                obtain ⟨news, h8, hq⟩ := rowsOfW_ok _ _ _ _ hq
                obtain ⟨h9, hq⟩ := chk_iff.1 hq
                have hmin : Nat.min m _ = _ := Nat.min_eq_right (Nat.le_of_not_le h7)
                exact ⟨_, by simp only [copyA, hu, h1, h2, ho, hm, hmin, h8]; rw [if_pos ⟨h3, h4, h5, h6, h9⟩], hq⟩
            · exact hq.elim
          · exact hq.elim
        · exact hq.elim
      · exact hq.elim
    · exact hq.elim
  · exact hq.elim

/-! ### Freezing, calls -/
mutual
def frVW (h : List AObj) : AV → (AV → Prop) → Prop
  | .sl o off len, Q => match h[o]? with
    | some (.arr _ _ sh rs) => br (rowsPure sh rs) (chk (off + len ≤ rs.length) (Q (.row false sh ((rs.drop off).take len)))) (Q (.sl o off len))
    | _ => Q (.sl o off len)
  | .fn g a b, Q => frLW h a fun a' => frLW h b fun b' => Q (.fn g a' b')
  | .iface t v, Q => frVW h v fun v' => Q (.iface t v')
  | .agg cs, Q => frLW h cs fun cs' => Q (.agg cs')
  | .tup vs, Q => frLW h vs fun vs' => Q (.tup vs')
  | v, Q => Q v
def frLW (h : List AObj) : List AV → (List AV → Prop) → Prop
  | [], Q => Q []
  | v :: l, Q => frVW h v fun v' => frLW h l fun l' => Q (v' :: l')
end
mutual
theorem frVW_ok (h : List AObj) : ∀ (v : AV) (Q : AV → Prop), frVW h v Q → Q (frV h v)
  | .sl o off len, Q, hq => by
    simp only [frVW] at hq
    simp only [frV]
    split at hq
    · rename_i ho
      simp only [ho]
      rcases br_iff.1 hq with ⟨h1, hq⟩ | ⟨h1, hq⟩
      · obtain ⟨h2, hq⟩ := chk_iff.1 hq
        rw [if_pos (by simp [h1, h2])]; exact hq
      · rw [if_neg (by simp [h1])]; exact hq
    · rename_i ho
      split
      · rename_i h1; exact absurd h1 (ho _ _ _ _)
      · exact hq
  | .fn g a b, Q, hq => by simp only [frVW] at hq; simp only [frV]; exact frLW_ok h b _ (frLW_ok h a _ hq)
  | .iface t v, Q, hq => by simp only [frVW] at hq; simp only [frV]; exact frVW_ok h v _ hq
  | .agg cs, Q, hq => by simp only [frVW] at hq; simp only [frV]; exact frLW_ok h cs _ hq
  | .tup vs, Q, hq => by simp only [frVW] at hq; simp only [frV]; exact frLW_ok h vs _ hq
  | .int _ _, Q, hq | .bool _, Q, hq | .str _, Q, hq | .nilp, Q, hq | .ptr _ _, Q, hq | .eptr _ _ _, Q, hq | .rptr _ _ _, Q, hq | .nils, Q, hq | .row _ _ _, Q, hq | .nilf, Q, hq | .nili, Q, hq | .gone, Q, hq => by
    simpa only [frVW, frV] using hq
theorem frLW_ok (h : List AObj) : ∀ (l : List AV) (Q : List AV → Prop), frLW h l Q → Q (frL h l)
  | [], Q, hq => by simpa only [frLW, frL] using hq
  | v :: l, Q, hq => by simp only [frLW] at hq; simp only [frL]; exact frLW_ok h l _ (frVW_ok h v _ hq)
end
end Go.Proofs.YtiemjcchlfbglaaGreatE
/- Path mode: calls, regions, code, functions. -/
namespace Go.Proofs.YtiemjcchlfbglaaGreatE
open Go
set_option linter.unusedVariables false

/-! ### Heads made plain (the kernel would carry what is not worked out along) -/
def frcNg : Nat → Nat → (Nat → Prop) → Prop
  | 0, n, K => K n
  | f + 1, n, K => match Nat.beq n f with
    | true => K f
    | false => frcNg f n K
def frcN (n : Nat) (K : Nat → Prop) : Prop := frcNg 40 n K
mutual
def frcV : AV → (AV → Prop) → Prop
  | .ptr o off, K => frcN o fun o => K (.ptr o off)
  | .eptr o i f, K => frcN o fun o => K (.eptr o i f)
  | .sl o off len, K => frcN o fun o => K (.sl o off len)
  | .fn g a b, K => frcL a fun a => frcL b fun b => K (.fn g a b)
  | .iface t v, K => frcV v fun v => K (.iface t v)
  | .agg cs, K => frcL cs fun cs => K (.agg cs)
  | .tup vs, K => frcL vs fun vs => K (.tup vs)
  | v, K => K v
def frcL : List AV → (List AV → Prop) → Prop
  | [], K => K []
  | v :: l, K => frcV v fun v => frcL l fun l => K (v :: l)
end
def frcO : AObj → (AObj → Prop) → Prop
  | .box cs, K => frcL cs fun cs => K (.box cs)
  | .tb T cs, K => frcL cs fun cs => K (.tb T cs)
  | ob, K => K ob
def frcH : List AObj → (List AObj → Prop) → Prop
  | [], K => K []
  | ob :: l, K => frcO ob fun ob => frcH l fun l => K (ob :: l)
def frcNs : List Nat → (List Nat → Prop) → Prop
  | [], K => K []
  | n :: l, K => frcN n fun n => frcNs l fun l => K (n :: l)
def frcS (st : S) (K : S → Prop) : Prop := frcL st.t fun t => frcH st.h fun h => K ⟨t, h⟩

def frcLL : List (List AV) → (List (List AV) → Prop) → Prop
  | [], K => K []
  | r :: l, K => frcL r fun r => frcLL l fun l => K (r :: l)
def frcB (ob : Option AObj) (K : Option AObj → Prop) : Prop :=
  match ob with
  | some (.arr md e sh rs) => frcLL rs fun rs => K (some (.arr md e sh rs))
  | ob => K ob
/-- The rows of a slice that is written out. -/
def frcOp (o : Op) (ob : Option AObj) (K : Option AObj → Prop) : Prop :=
  match o with
  | .buildSlice _ _ _ => frcB ob K
  | _ => K ob

/-- What bits make is not worked out, where the hints say so. -/
def isBit : Op → Bool
  | .binOp .and _ _ _ _ => true
  | .binOp .or _ _ _ _ => true
  | .binOp .xor _ _ _ _ => true
  | .binOp .shl _ _ _ _ => true
  | .binOp .shr _ _ _ _ => true
  | _ => false
def absW (b : Bool) (o : Op) (v : AV) (Q : AV → Prop) : Prop :=
  match b with
  | true => match isBit o with
    | true => match v with
      | .int k n => ∀ z : Int, z = n → Q (.int k z)
      | v => Q v
    | false => Q v
  | false => Q v

/-- What is known of the functions that are called. -/
abbrev Orc := FuncId → List AV → List AObj → (AV × List AObj → Prop) → Prop
def backA (fz : Fz) (h : List AObj) (args : List AV) (σ : List Nat) (p : AV × List AObj) (Q : AV × List AObj → Prop) : Prop :=
  chk (σ.length ≤ p.2.length) (frcV (mapV (backTo h.length σ p.2.length) p.1) fun v => frcH (setMany (heapF fz h args) σ ((p.2.take σ.length).map (mapO (backTo h.length σ p.2.length))) ++
          (p.2.drop σ.length).map (mapO (backTo h.length σ p.2.length))) fun h' => Q (v, h'))
def callGo (O : Orc) (fz : Fz) (h : List AObj) (g : FuncId) (args args' : List AV) (σ : List Nat) (Q : AV × List AObj → Prop) : Prop :=
  frcNs σ fun σ => frcL (mapL (idx · σ) args') fun args' => frcH (σ.map fun i => mapO (idx · σ) ((heapF fz h args).getD i .dead)) fun h' => O g args' h' fun p => backA fz h args σ p Q
def callAW (O : Orc) (fz : Fz) (h : List AObj) (g : FuncId) (args : List AV) (Q : AV × List AObj → Prop) : Prop :=
  match fz with
  | some hss => frLW h args fun a => frcL (nlT hss a) fun args' => callGo O (some hss) h g args args' (collect (heapF (some hss) h args) 1000 (refsL args') []) Q
  | none => callGo O none h g args args (collect h 1000 (refsL args) []) Q
def wrAW (C : Ctx) (O : Orc) (ρ : Operand → AV) (h : List AObj) (o : Oper) (Q : AV × List AObj → Prop) : Prop :=
  match o.op with
  | .store t a v => storeAW C.P h t (ρ a) (ρ v) fun h' => Q (.undef, h')
  | .next it true => nextAW h (ρ it) Q
  | .call { callee := .builtin .append, args, argTypes } => match args.toList with
    | [s, x] => appendAW C.P h argTypes.toList (ρ s) (ρ x) Q
    | _ => False
  | .call { callee := .builtin .copy, args, argTypes } => match args.toList with
    | [s, x] => copyAW C.P h argTypes.toList (ρ s) (ρ x) Q
    | _ => False
  | .call { callee := .builtin _, .. } => False
  | op => match calleeA C.P ρ op with
    | some (g, args) => chk (bodied C.P g = true) (callAW O (C.fz g) h g args Q)
    | none => False
def opAW (C : Ctx) (O : Orc) (ρ : Operand → AV) (h : List AObj) (o : Oper) (Q : AV × List AObj → Prop) : Prop :=
  match isWriter o with
  | true => wrAW C O ρ h o Q
  | false => nwAW C.P ρ h h.length o fun p => frcOp o.op p.2 fun ob => absW C.abs o.op p.1 fun v => Q (v, h ++ ob.toList)
def wantedW (ops : Array Oper) (t : List AV) (o : Oper) (A B : Prop) : Prop :=
  match o.guard with
  | none => A
  | some (j, want) => match (ops[j]?).bind (·.dst) with
    | none => B
    | some d => match t[d]? with
      | some (.bool b) => match want with
        | true => br b A B
        | false => br b B A
      | some .gone => False
      | _ => B
/-- Some other operation hangs on this one. -/
def gsrc (ops : Array Oper) (i : Nat) : Bool := ops.any fun o => match o.guard with | some (j, _) => Nat.beq j i | none => false
def spl (b : Bool) (v : AV) (K : AV → Prop) : Prop :=
  match b with
  | true => match v with
    | .bool b => br b (K (.bool true)) (K (.bool false))
    | v => K v
  | false => K v
def stepW (C : Ctx) (O : Orc) (ops : Array Oper) (i : Nat) (st : S) (Q : S → Prop) : Prop :=
  match ops[i]? with
  | none => Q st
  | some o => wantedW ops st.t o (opAW C O (ev st.t) st.h o fun p => spl (gsrc ops i) p.1 fun v => Q (st.put o.dst v p.2)) (Q (st.put o.dst .undef st.h))
def runOpsW (C : Ctx) (O : Orc) (ops : Array Oper) : List Nat → S → (S → Prop) → Prop
  | [], st, Q => Q st
  | i :: is, st, Q => stepW C O ops i st fun st' => runOpsW C O ops is st' Q
def touchedW (C : Ctx) (ρ : Operand → AV) (h : List AObj) (o : Oper) (Q : List Nat → Prop) : Prop :=
  match o.op with
  | .store _ a _ => Q (match ρ a with | .ptr b _ | .eptr b _ _ => [b] | _ => [])
  | .next it _ => Q (match ρ it with | .ptr b _ => [b] | _ => [])
  | .call { callee := .builtin _, args, .. } => Q (match args.toList with | s :: _ => (match ρ s with | .sl b _ _ => [b] | _ => []) | [] => [])
  | op => match calleeA C.P ρ op with
    | some (g, args) => match C.fz g with
      | some hss => frLW h args fun a => frcL (nlT hss a) fun args' => Q (collect (heapF (some hss) h args) 1000 (refsL args') [])
      | none => Q (collect h 1000 (refsL args) [])
    | none => Q []
/-- Behind operation i. -/
def runDW (C : Ctx) (O : Orc) (ops : Array Oper) (bf : Array Nat) : List Nat → List (Nat × Nat) → S → (S → Prop) → Prop
  | [], _, st, Q => Q st
  | i :: is, pend, st, Q =>
    match ops[i]? with
    | none => False
    | some o =>
      wantedW ops st.t o
        (match isWriter o with
          | true => match pend.all fun p => (bf.getD i 0).testBit p.1 with
            | true => opAW C O (ev st.t) st.h o fun p => spl (gsrc ops i) p.1 fun v => runDW C O ops bf is pend (st.put o.dst v p.2) Q
            | false => touchedW C (ev st.t) st.h o fun l => chk ((pend.all fun p => (bf.getD i 0).testBit p.1 || !l.contains p.2) = true) (opAW C O (ev st.t) st.h o fun p => spl (gsrc ops i) p.1 fun v => runDW C O ops bf is pend (st.put o.dst v p.2) Q)
          | false => opAW C O (ev st.t) st.h o fun p => spl (gsrc ops i) p.1 fun v => runDW C O ops bf is ((readObj (ev st.t) o).toList.map (fun b => (i, b)) ++ pend) (st.put o.dst v p.2) Q)
        (runDW C O ops bf is pend (st.put o.dst .undef st.h) Q)
def regionW (C : Ctx) (O : Orc) (ops : Array Oper) (draw : Bool) (st : S) (Q : S → Prop) : Prop :=
  match draw with
  | true => chk ((canonOk ops (Region.before ops) (canon ops) 0 none && tmpOk ops (Region.before ops)) = true) (runDW C O ops (Region.before ops) (canon ops) [] st Q)
  | false => runOpsW C O ops (List.range ops.size) st Q

/-- What is known of the loops: of the slots that are kept, and the objects. -/
abbrev LW := List AV → List AObj → (Ex → List AV → List AObj → Prop) → Prop
def spread : Nat → Nat → List Nat → List AV → List AV
  | 0, _, _, _ => []
  | n + 1, i, k :: ks, v :: vs => match Nat.beq i k with
    | true => v :: spread n (i + 1) ks vs
    | false => .gone :: spread n (i + 1) (k :: ks) (v :: vs)
  | n + 1, i, ks, vs => .gone :: spread n (i + 1) ks vs
def valsOf : Nat → List Nat → List AV → List AV
  | _, [], _ => []
  | _, _ :: _, [] => []
  | i, k :: ks, v :: t => match Nat.beq i k with
    | true => v :: valsOf (i + 1) ks t
    | false => valsOf (i + 1) (k :: ks) t
def keepOf (C : Ctx) : Ex → Option (List Nat)
  | .nrm => none
  | .exit id => C.keepX id
  | .ret => C.keepR
def backL (C : Ctx) (n : Nat) (Q : Ex → S → Prop) (ex : Ex) (vals : List AV) (h : List AObj) : Prop :=
  match keepOf C ex with
  | some l => Q ex ⟨spread n 0 l vals, h⟩
  | none => False
def gcW2 (σ : List Nat) (t : List AV) (h : List AObj) (Q : S → Prop) : Prop :=
  frcNs σ fun σ => frcS ⟨mapL (idx · σ) t, σ.map fun i => mapO (idx · σ) (h.getD i .dead)⟩ Q
def gcW (n0 : Nat) (keep : List Nat) (st : S) (Q : S → Prop) : Prop :=
  frcL (only 0 keep st.t) fun t => gcW2 (collect st.h 1000 (rootsN st.h n0 ++ refsL t) (List.range n0)) t st.h Q
def gcOW (n0 : Nat) (l : Option (List Nat)) (st : S) (Q : S → Prop) : Prop :=
  match l with
  | none => Q st
  | some l => gcW n0 l st Q
def execW (C : Ctx) (O : Orc) (L : Nat → LW) : Code → S → (Ex → S → Prop) → Prop
  | .skip, st, Q => Q .nrm st
  | .region _ ops draw, st, Q => regionW C O ops draw st fun st' => frcS st' (Q .nrm)
  | .seq a b, st, Q => execW C O L a st fun ex st' => match ex with
    | .nrm => execW C O L b st' Q
    | .exit j => Q (.exit j) st'
    | .ret => Q .ret st'
  | .cond c x y, st, Q => match ev st.t c with
    | .bool b => br b (execW C O L x st Q) (execW C O L y st Q)
    | _ => False
  | .block id c, st, Q => execW C O L c st fun ex st' => match ex with
    | .nrm => Q .nrm st'
    | .exit j => match Nat.beq j id with
      | true => Q .nrm st'
      | false => Q (.exit j) st'
    | .ret => Q .ret st'
  | .loop c, st, Q => gcW C.n0 (C.keep (firstR c)) st fun st' => L (firstR c) (valsOf 0 (C.keep (firstR c)) st'.t) st'.h (backL C st.t.length Q)
  | .exit id, st, Q => gcOW C.n0 (C.keepX id) st (Q (.exit id))
  | .ret, st, Q => gcOW C.n0 C.keepR st (Q .ret)
  | _, _, _ => False
def loops : Code → List Code
  | .seq a b => loops a ++ loops b
  | .cond _ a b => loops a ++ loops b
  | .block _ c => loops c
  | .loop c => c :: loops c
  | _ => []
/-- A loop's body, once. -/
def bodyW (C : Ctx) (O : Orc) (L : Nat → LW) (n : Nat) (c : Code) (vals : List AV) (h : List AObj) (Q : Ex → List AV → List AObj → Prop) : Prop :=
  execW C O L c ⟨spread n 0 (C.keep (firstR c)) vals, h⟩ fun ex st' => match ex with
    | .nrm => gcW C.n0 (C.keep (firstR c)) st' fun s => Q .nrm (valsOf 0 (C.keep (firstR c)) s.t) s.h
    | .exit id => match C.keepX id with
      | some l => Q (.exit id) (valsOf 0 l st'.t) st'.h
      | none => False
    | .ret => match C.keepR with
      | some l => Q .ret (valsOf 0 l st'.t) st'.h
      | none => False
def finW2 (σ : List Nat) (h : List AObj) (v : AV) (Q : AV × List AObj → Prop) : Prop :=
  frcNs σ fun σ => frcV (mapV (idx · σ) v) fun v => frcH (σ.map fun i => mapO (idx · σ) (h.getD i .dead)) fun h => Q (v, h)
def finishW (n0 : Nat) (frz : Option (List (List (List K)))) (h : List AObj) (v : AV) (Q : AV × List AObj → Prop) : Prop :=
  match frz with
  | some hss => frVW h v fun v1 => frcV (nlV hss v1) fun v1 => frcH (markRo h (slsV v)) fun h1 => finW2 (collect h1 1000 (rootsN h1 n0 ++ refsV v1) (List.range n0)) h1 v1 Q
  | none => finW2 (collect h 1000 (rootsN h n0 ++ refsV v) (List.range n0)) h v Q
def ctxW (P : Program) (H : Hints) (f : FuncId) (n0 : Nat) : Ctx := ⟨P, fun _ _ _ => none, 0, n0, H.keep f, H.keepX f, H.keepR f, H.abs f, H.fz⟩
def funW (P : Program) (H : Hints) (O : Orc) (L : Nat → LW) (f : FuncId) (args : List AV) (h : List AObj) (Q : AV × List AObj → Prop) : Prop :=
  match H.prim f with
  | some _ => False
  | none => match P.funcs[f]? with
  | some fn => match fn.body with
    | some c => execW (ctxW P H f h.length) O L c ⟨args ++ List.replicate (fn.ntmps - args.length) .undef, h⟩ fun ex st => match ex with
      | .exit _ => False
      | _ => optW (resultsA P st fn.results.toList) fun v => finishW h.length (H.frz f) st.h v Q
    | none => False
  | none => False
end Go.Proofs.YtiemjcchlfbglaaGreatE
/- Path mode is sound: calls and regions. -/
namespace Go.Proofs.YtiemjcchlfbglaaGreatE
open Go
set_option linter.unusedVariables false

theorem frcNg_ok : ∀ (f n : Nat) (K : Nat → Prop), frcNg f n K → K n
  | 0, n, K, h => h
  | f + 1, n, K, h => by
    unfold frcNg at h
    split at h
    · rename_i e; rw [Nat.eq_of_beq_eq_true e]; exact h
    · exact frcNg_ok f n K h
theorem frcN_ok {n : Nat} {K : Nat → Prop} (h : frcN n K) : K n := frcNg_ok 40 n K h
mutual
theorem frcV_ok : ∀ (v : AV) (K : AV → Prop), frcV v K → K v
  | .ptr o off, K, h => by simp only [frcV] at h; exact frcN_ok h
  | .eptr o i f, K, h => by simp only [frcV] at h; exact frcN_ok h
  | .sl o off len, K, h => by simp only [frcV] at h; exact frcN_ok h
  | .fn g a b, K, h => by simp only [frcV] at h; exact frcL_ok b _ (frcL_ok a _ h)
  | .iface t v, K, h => by simp only [frcV] at h; exact frcV_ok v _ h
  | .agg cs, K, h => by simp only [frcV] at h; exact frcL_ok cs _ h
  | .tup vs, K, h => by simp only [frcV] at h; exact frcL_ok vs _ h
  | .int _ _, K, h | .bool _, K, h | .str _, K, h | .nilp, K, h | .rptr _ _ _, K, h | .nils, K, h | .row _ _ _, K, h | .nilf, K, h | .nili, K, h | .gone, K, h => by
    simpa only [frcV] using h
theorem frcL_ok : ∀ (l : List AV) (K : List AV → Prop), frcL l K → K l
  | [], K, h => by simpa only [frcL] using h
  | v :: l, K, h => by simp only [frcL] at h; exact frcL_ok l _ (frcV_ok v _ h)
end
theorem frcO_ok {ob : AObj} {K : AObj → Prop} (h : frcO ob K) : K ob := by
  cases ob with
  | box cs => simp only [frcO] at h; exact frcL_ok cs _ h
  | tb T cs => simp only [frcO] at h; exact frcL_ok cs _ h
  | arr _ _ _ _ => exact h
  | iter _ _ => exact h
  | dead => exact h
theorem frcH_ok : ∀ (l : List AObj) (K : List AObj → Prop), frcH l K → K l
  | [], K, h => h
  | ob :: l, K, h => by simp only [frcH] at h; exact frcH_ok l _ (frcO_ok h)
theorem frcNs_ok : ∀ (l : List Nat) (K : List Nat → Prop), frcNs l K → K l
  | [], K, h => h
  | n :: l, K, h => by simp only [frcNs] at h; exact frcNs_ok l _ (frcN_ok h)
theorem frcS_ok {st : S} {K : S → Prop} (h : frcS st K) : K st := frcH_ok _ _ (frcL_ok _ _ h)

theorem frcLL_ok : ∀ (l : List (List AV)) (K : List (List AV) → Prop), frcLL l K → K l
  | [], K, h => h
  | r :: l, K, h => by simp only [frcLL] at h; exact frcLL_ok l _ (frcL_ok r _ h)
theorem frcB_ok {ob : Option AObj} {K : Option AObj → Prop} (h : frcB ob K) : K ob := by
  unfold frcB at h
  split at h
  · exact frcLL_ok _ _ h
  · exact h
theorem frcOp_ok {o : Op} {ob : Option AObj} {K : Option AObj → Prop} (h : frcOp o ob K) : K ob := by
  unfold frcOp at h
  split at h
  · exact frcB_ok h
  · exact h

theorem absW_ok {b : Bool} {o : Op} {v : AV} {Q : AV → Prop} (h : absW b o v Q) : Q v := by
  unfold absW at h
  split at h
  · split at h
    · split at h
      · exact h _ rfl
      · exact h
    · exact h
  · exact h
/-- From some fuel on. -/
def Ev {α : Type} (X : Nat → Option α) (Q : α → Prop) : Prop := ∃ a, (∃ K, ∀ k, K ≤ k → X k = some a) ∧ Q a
def OkO (P : Program) (H : Hints) (O : Orc) : Prop := ∀ g a h Q, O g a h Q → Ev (fun k => run P H k g a h) Q
theorem Ev.const {α : Type} {X : Option α} {w : (α → Prop) → Prop} (h : OkW X w) {Q : α → Prop} (hq : w Q) : Ev (fun _ => X) Q := by
  obtain ⟨a, h1, h2⟩ := h Q hq
  exact ⟨a, ⟨0, fun _ _ => h1⟩, h2⟩
theorem Ev.of {α : Type} {X : Nat → Option α} {Q : α → Prop} {a : α} (h : ∀ k, X k = some a) (hq : Q a) : Ev X Q := ⟨a, ⟨0, fun k _ => h k⟩, hq⟩
theorem Ev.bind {α β : Type} {X : Nat → Option α} {R : α → Prop} {Y : Nat → α → Option β} {Q : β → Prop} (h1 : Ev X R) (h2 : ∀ a, R a → Ev (fun k => Y k a) Q) :
    Ev (fun k => (X k).bind (Y k)) Q := by
  obtain ⟨a, ⟨K1, e1⟩, hr⟩ := h1
  obtain ⟨b, ⟨K2, e2⟩, hq⟩ := h2 a hr
  exact ⟨b, ⟨max K1 K2, fun k hk => by show (X k).bind (Y k) = _; rw [e1 k (by omega)]; exact e2 k (by omega)⟩, hq⟩
theorem Ev.map {α β : Type} {X : Nat → Option α} {Q : β → Prop} {f : α → β} (h : Ev X fun a => Q (f a)) : Ev (fun k => (X k).map f) Q := by
  obtain ⟨a, ⟨K1, e1⟩, hr⟩ := h
  exact ⟨f a, ⟨K1, fun k hk => by show (X k).map f = _; rw [e1 k hk]; rfl⟩, hr⟩
theorem Ev.congr {α : Type} {X Y : Nat → Option α} {Q : α → Prop} (e : ∀ k, X k = Y k) (h : Ev X Q) : Ev Y Q := by
  obtain ⟨a, ⟨K1, e1⟩, hr⟩ := h
  exact ⟨a, ⟨K1, fun k hk => by rw [← e k]; exact e1 k hk⟩, hr⟩

section
variable {P : Program} {H : Hints} {O : Orc}
/-- The context of a run. -/
def atK (P : Program) (H : Hints) (C : Ctx) (k : Nat) : Ctx := ⟨P, run P H k, k, C.n0, C.keep, C.keepX, C.keepR, C.abs, C.fz⟩

theorem callAW_ok (hO : OkO P H O) (fz : Fz) (h : List AObj) (g : FuncId) (args : List AV) (Q : AV × List AObj → Prop) (hq : callAW O fz h g args Q) : Ev (fun k => callA (run P H k) fz h g args) Q := by
  have h1 : callGo O fz h g args (argsF fz h args) (collect (heapF fz h args) 1000 (refsL (argsF fz h args)) []) Q := by
    unfold callAW at hq
    cases fz with
    | none => exact hq
    | some hss => exact frcL_ok _ _ (frLW_ok h args _ hq)
  unfold callGo at h1
  have h2 := hO _ _ _ _ (frcH_ok _ _ (frcL_ok _ _ (frcNs_ok _ _ h1)))
  obtain ⟨⟨v, h'⟩, ⟨K, e⟩, hb⟩ := h2
  unfold backA at hb
  obtain ⟨hl, hb⟩ := chk_iff.1 hb
  have hb := frcH_ok _ _ (frcV_ok _ _ hb)
  refine ⟨_, ⟨K, fun k hk => ?_⟩, hb⟩
  have e := e k hk
  show callA (run P H k) fz h g args = _
  unfold callA
  rw [show run P H k g (mapL (idx · (sig fz h args)) (argsF fz h args)) ((sig fz h args).map fun i => mapO (idx · (sig fz h args)) ((heapF fz h args).getD i .dead)) = some (v, h') from e]
  exact if_pos (show (sig fz h args).length ≤ h'.length from hl)

theorem wrAW_ok (hO : OkO P H O) {C : Ctx} (hC : C.P = P) (ρ : Operand → AV) (h : List AObj) (o : Oper) (Q : AV × List AObj → Prop) (hq : wrAW C O ρ h o Q) :
    Ev (fun k => wrA (atK P H C k) ρ h o) Q := by
  subst hC
  unfold wrAW at hq
  split at hq
  · rename_i ho
    obtain ⟨h', h1, h2⟩ := storeAW_ok _ _ _ _ _ _ hq
    exact Ev.of (fun k => by simp only [wrA, ho, atK, h1]; rfl) h2
  · rename_i ho
    obtain ⟨p, h1, h2⟩ := nextAW_ok _ _ _ hq
    exact Ev.of (fun k => by simp only [wrA, ho, h1]) h2
  · rename_i ho
    split at hq
    · rename_i hl
      obtain ⟨p, h1, h2⟩ := appendAW_ok _ _ _ _ _ _ hq
      exact Ev.of (fun k => by simp only [wrA, ho, hl, atK, h1]) h2
    · exact hq.elim
  · rename_i ho
    split at hq
    · rename_i hl
      obtain ⟨p, h1, h2⟩ := copyAW_ok _ _ _ _ _ _ hq
      exact Ev.of (fun k => by simp only [wrA, ho, hl, atK, h1]) h2
    · exact hq.elim
  · exact hq.elim
  · rename_i op n1 n2 n3 n5 n4
    split at hq
    · rename_i g args hc
      obtain ⟨hb, hq⟩ := chk_iff.1 hq
      refine Ev.congr (fun k => ?_) (callAW_ok hO _ h g args Q hq)
      unfold wrA
      split
      · rename_i ho; exact absurd ho (n1 _ _ _)
      · rename_i ho; exact absurd ho (n2 _)
      · rename_i ho; exact absurd ho (n3 _ _)
      · rename_i ho; exact absurd ho (n5 _ _)
      · rename_i ho; exact absurd ho (n4 _ _ _)
      · simp only [atK, hc, hb, if_true]
    · exact hq.elim

theorem opAW_ok (hO : OkO P H O) {C : Ctx} (hC : C.P = P) (ρ : Operand → AV) (h : List AObj) (o : Oper) (Q : AV × List AObj → Prop) (hq : opAW C O ρ h o Q) :
    Ev (fun k => opA (atK P H C k) ρ h o) Q := by
  unfold opAW at hq
  split at hq
  · rename_i hw
    exact Ev.congr (fun k => by unfold opA; rw [hw]; rfl) (wrAW_ok hO hC ρ h o Q hq)
  · rename_i hw
    obtain ⟨p, h1, h2⟩ := nwAW_ok _ _ _ _ _ _ hq
    have h2 := absW_ok (frcOp_ok h2)
    exact Ev.of (fun k => by unfold opA; rw [hw]; simp only [atK]; rw [← hC, h1]; rfl) h2
theorem wantedW_ok {ops : Array Oper} {t : List AV} {o : Oper} {A B : Prop} (h : wantedW ops t o A B) : (wantedA ops t o = some true ∧ A) ∨ (wantedA ops t o = some false ∧ B) := by
  unfold wantedW at h
  unfold wantedA
  split at h
  · rename_i hg; rw [hg]; exact .inl ⟨by simp, h⟩
  · rename_i j want hg
    simp only [hg]
    split at h
    · rename_i hd; simp only [hd]; exact .inr ⟨by simp, h⟩
    · rename_i d hd
      simp only [hd]
      split at h
      · rename_i b hb
        simp only [hb]
        cases want with
        | true =>
          rcases br_iff.1 h with ⟨rfl, h⟩ | ⟨rfl, h⟩
          · exact .inl ⟨rfl, h⟩
          · exact .inr ⟨rfl, h⟩
        | false =>
          rcases br_iff.1 h with ⟨rfl, h⟩ | ⟨rfl, h⟩
          · exact .inr ⟨rfl, h⟩
          · exact .inl ⟨rfl, h⟩
      · exact h.elim
      · rename_i n1 n2
        refine .inr ⟨?_, h⟩
        split
        · rename_i e; exact absurd e (n1 _)
        · rename_i e; exact absurd e n2
        · rfl
theorem spl_ok {b : Bool} {v : AV} {K : AV → Prop} (h : spl b v K) : K v := by
  unfold spl at h
  split at h
  · split at h
    · rcases br_iff.1 h with ⟨rfl, h⟩ | ⟨rfl, h⟩ <;> exact h
    · exact h
  · exact h
theorem stepW_ok (hO : OkO P H O) {C : Ctx} (hC : C.P = P) (ops : Array Oper) (i : Nat) (st : S) (Q : S → Prop) (hq : stepW C O ops i st Q) :
    Ev (fun k => stepA (atK P H C k) ops i st) Q := by
  unfold stepW at hq
  unfold stepA
  split at hq
  · rename_i ho; simp only [ho]; exact Ev.of (fun _ => rfl) hq
  · rename_i o ho
    simp only [ho]
    rcases wantedW_ok hq with ⟨hw, hq⟩ | ⟨hw, hq⟩
    · simp only [hw, if_true]
      refine Ev.map ?_
      obtain ⟨a, h1, h2⟩ := opAW_ok hO hC _ _ _ _ hq
      exact ⟨a, h1, spl_ok h2⟩
    · simp only [hw]
      exact Ev.of (fun _ => rfl) hq
theorem runOpsW_ok (hO : OkO P H O) {C : Ctx} (hC : C.P = P) (ops : Array Oper) : ∀ (is : List Nat) (st : S) (Q : S → Prop), runOpsW C O ops is st Q → Ev (fun k => runOps (atK P H C k) ops is st) Q
  | [], st, Q, hq => Ev.of (fun _ => rfl) hq
  | i :: is, st, Q, hq => by
    simp only [runOpsW] at hq
    simp only [runOps]
    exact Ev.bind (stepW_ok hO hC ops i st _ hq) fun a ha => runOpsW_ok hO hC ops is a Q ha
theorem touchedW_ok {C : Ctx} (ρ : Operand → AV) (h : List AObj) (o : Oper) (Q : List Nat → Prop) (hq : touchedW C ρ h o Q) : Q (touched C ρ h o) := by
  unfold touchedW at hq
  unfold touched
  split at hq
  · rename_i ho; simp only [ho]; exact hq
  · rename_i ho; simp only [ho]; exact hq
  · rename_i ho; simp only [ho]; exact hq
  · rename_i op n1 n2 n3
    split
    · rename_i ho; exact absurd ho (n1 _ _ _)
    · rename_i ho; exact absurd ho (n2 _ _)
    · rename_i ho; exact absurd ho (n3 _ _ _)
    · split at hq
      · rename_i hc
        simp only [hc, sig, argsF]
        cases hz : C.fz _ with
        | some hss =>
          rw [hz] at hq
          have hq2 := frLW_ok h _ _ hq
          exact frcL_ok _ _ hq2
        | none => rw [hz] at hq; exact hq
      · rename_i hc; simp only [hc]; exact hq
theorem runDW_ok (hO : OkO P H O) {C : Ctx} (hC : C.P = P) (ops : Array Oper) (bf : Array Nat) : ∀ (is : List Nat) (pend : List (Nat × Nat)) (st : S) (Q : S → Prop), runDW C O ops bf is pend st Q →
    Ev (fun k => runD (atK P H C k) ops bf is pend st) Q
  | [], pend, st, Q, hq => Ev.of (fun _ => rfl) hq
  | i :: is, pend, st, Q, hq => by
    simp only [runDW] at hq
    simp only [runD]
    split at hq
    · exact hq.elim
    · rename_i o ho
      simp only [ho]
      have hstep : ∀ {R : S → Prop}, wantedA ops st.t o = some true → opAW C O (ev st.t) st.h o (fun p => spl (gsrc ops i) p.1 fun v => R (st.put o.dst v p.2)) → Ev (fun k => stepA (atK P H C k) ops i st) R := by
        intro R hw h
        unfold stepA
        simp only [ho, hw, if_true]
        refine Ev.map ?_
        obtain ⟨a, h1, h2⟩ := opAW_ok hO hC _ _ _ _ h
        exact ⟨a, h1, spl_ok h2⟩
      have ht : ∀ k, touched (atK P H C k) (ev st.t) st.h o = touched C (ev st.t) st.h o := fun k => by unfold touched atK; rw [hC]
      rcases wantedW_ok hq with ⟨hw, hq⟩ | ⟨hw, hq⟩
      · simp only [hw, if_true]
        split at hq
        · rename_i hwr
          simp only [hwr, if_true]
          split at hq
          · rename_i hp
            have hp2 : ∀ l : List Nat, (pend.all fun p => (bf.getD i 0).testBit p.1 || !l.contains p.2) = true := fun l => by
              rw [List.all_eq_true] at hp ⊢
              intro p hm
              rw [hp p hm]; rfl
            simp only [hp2, if_true]
            exact Ev.bind (hstep hw hq) fun a ha => runDW_ok hO hC ops bf is pend a Q ha
          · have hq := touchedW_ok _ _ _ _ hq
            obtain ⟨hp, hq⟩ := chk_iff.1 hq
            simp only [ht, hp, if_true]
            exact Ev.bind (hstep hw hq) fun a ha => runDW_ok hO hC ops bf is pend a Q ha
        · rename_i hwr
          simp only [hwr]
          exact Ev.bind (hstep hw hq) fun a ha => runDW_ok hO hC ops bf is _ a Q ha
      · simp only [hw]
        refine Ev.bind (R := fun a => runDW C O ops bf is pend a Q) ?_ fun a ha => runDW_ok hO hC ops bf is pend a Q ha
        refine Ev.of (fun k => ?_) hq
        unfold stepA
        simp only [ho, hw]
        rfl
theorem regionW_ok (hO : OkO P H O) {C : Ctx} (hC : C.P = P) (ops : Array Oper) (draw : Bool) (st : S) (Q : S → Prop) (hq : regionW C O ops draw st Q) :
    Ev (fun k => regionA (atK P H C k) ops draw st) Q := by
  unfold regionW at hq
  unfold regionA
  split at hq
  · obtain ⟨h1, hq⟩ := chk_iff.1 hq
    simp only [h1, if_true]
    exact runDW_ok hO hC ops _ _ _ _ _ hq
  · exact runOpsW_ok hO hC ops _ _ _ hq
end
end Go.Proofs.YtiemjcchlfbglaaGreatE
/- Path mode is sound: code, loops, functions. -/
namespace Go.Proofs.YtiemjcchlfbglaaGreatE
open Go
set_option linter.unusedVariables false

theorem only_len : ∀ (i : Nat) (ks : List Nat) (t : List AV), (only i ks t).length = t.length
  | _, _, [] => by simp [only]
  | i, [], v :: t => by simp [only, only_len (i + 1) [] t]
  | i, k :: ks, v :: t => by
    simp only [only]
    split
    · simp [only_len (i + 1) ks t]
    · simp [only_len (i + 1) (k :: ks) t]
theorem only_idem : ∀ (i : Nat) (ks : List Nat) (t : List AV), only i ks (only i ks t) = only i ks t
  | _, _, [] => by simp [only]
  | i, [], v :: t => by simp [only, only_idem (i + 1) [] t]
  | i, k :: ks, v :: t => by
    simp only [only]
    split
    · rename_i h; simp only [only, if_pos h, only_idem (i + 1) ks t]
    · rename_i h; simp only [only, if_neg h, only_idem (i + 1) (k :: ks) t]
theorem only_mapL (f : Nat → Option Nat) : ∀ (i : Nat) (ks : List Nat) (t : List AV), only i ks (mapL f t) = mapL f (only i ks t)
  | _, _, [] => by simp [only, mapL]
  | i, [], v :: t => by simp [only, mapL, mapV, only_mapL f (i + 1) [] t]
  | i, k :: ks, v :: t => by
    simp only [only, mapL]
    split
    · simp only [mapL, only_mapL f (i + 1) ks t]
    · simp only [mapL, mapV, only_mapL f (i + 1) (k :: ks) t]
theorem spread_len : ∀ (n i : Nat) (ks : List Nat) (vs : List AV), (spread n i ks vs).length = n
  | 0, _, _, _ => by simp [spread]
  | n + 1, i, k :: ks, v :: vs => by
    simp only [spread]
    split
    · simp [spread_len n (i + 1) ks vs]
    · simp [spread_len n (i + 1) (k :: ks) (v :: vs)]
  | n + 1, i, [], vs => by simp [spread, spread_len n (i + 1) [] vs]
  | n + 1, i, k :: ks, [] => by simp [spread, spread_len n (i + 1) (k :: ks) []]
theorem spread_nil : ∀ (n i : Nat) (ks : List Nat), spread n i ks [] = List.replicate n .gone
  | 0, _, _ => by simp [spread]
  | n + 1, i, [] => by simp [spread, spread_nil n (i + 1) [], List.replicate_succ]
  | n + 1, i, k :: ks => by simp [spread, spread_nil n (i + 1) (k :: ks), List.replicate_succ]
theorem only_gone : ∀ (n i : Nat) (ks : List Nat), only i ks (List.replicate n .gone) = List.replicate n .gone
  | 0, _, _ => by simp [only]
  | n + 1, i, [] => by simp [only, only_gone n (i + 1) [], List.replicate_succ]
  | n + 1, i, k :: ks => by
    rw [List.replicate_succ]
    simp only [only]
    split
    · rw [only_gone n (i + 1) ks]
    · rw [only_gone n (i + 1) (k :: ks)]
theorem spread_vals : ∀ (t : List AV) (i : Nat) (ks : List Nat), spread t.length i ks (valsOf i ks t) = only i ks t
  | [], _, _ => by simp [spread, only]
  | v :: t, i, [] => by
    have := spread_vals t (i + 1) []
    simp only [valsOf] at this
    simp [spread, valsOf, only, this]
  | v :: t, i, k :: ks => by
    simp only [valsOf, only, List.length_cons]
    cases hk : Nat.beq i k with
    | true =>
      simp only [spread, hk, if_true, spread_vals t (i + 1) ks]
    | false =>
      simp only [Bool.false_eq_true, if_false]
      rw [← spread_vals t (i + 1) (k :: ks)]
      cases valsOf (i + 1) (k :: ks) t with
      | nil => simp only [spread]
      | cons a l => simp only [spread, hk]
theorem only_spread : ∀ (n i : Nat) (ks : List Nat) (vs : List AV), only i ks (spread n i ks vs) = spread n i ks vs
  | 0, _, _, _ => by simp [spread, only]
  | n + 1, i, [], vs => by simp [spread, only, only_spread n (i + 1) [] vs]
  | n + 1, i, k :: ks, [] => by rw [spread_nil, only_gone]
  | n + 1, i, k :: ks, v :: vs => by
    simp only [spread]
    cases hk : Nat.beq i k with
    | true => simp only [only, hk, if_true, only_spread n (i + 1) ks vs]
    | false => simp only [only, hk, Bool.false_eq_true, if_false, only_spread n (i + 1) (k :: ks) (v :: vs)]
theorem gcS_len (n0 : Nat) (l : List Nat) (st : S) : (gcS n0 l st).t.length = st.t.length := by simp [gcS, mapL_len, only_len]
theorem gcS_only (n0 : Nat) (l : List Nat) (st : S) : only 0 l (gcS n0 l st).t = (gcS n0 l st).t := by simp only [gcS, only_mapL, only_idem]
theorem stepA_len {C : Ctx} {ops : Array Oper} {i : Nat} {st st' : S} (h : stepA C ops i st = some st') : st'.t.length = st.t.length := by
  unfold stepA at h
  split at h
  · cases h; rfl
  · split at h
    · split at h
      · rw [Option.map_eq_some_iff] at h
        obtain ⟨p, _, rfl⟩ := h
        exact put_len
      · cases h; exact put_len
    · cases h
theorem runOps_len {C : Ctx} {ops : Array Oper} : ∀ (is : List Nat) {st st' : S}, runOps C ops is st = some st' → st'.t.length = st.t.length
  | [], st, st', h => by simp [runOps] at h; rw [h]
  | i :: is, st, st', h => by
    simp only [runOps] at h
    rw [Option.bind_eq_some_iff] at h
    obtain ⟨a, h1, h2⟩ := h
    rw [runOps_len is h2, stepA_len h1]
theorem runD_len {C : Ctx} {ops : Array Oper} {bf : Array Nat} : ∀ (is : List Nat) {pend : List (Nat × Nat)} {st st' : S}, runD C ops bf is pend st = some st' → st'.t.length = st.t.length
  | [], pend, st, st', h => by simp [runD] at h; rw [h]
  | i :: is, pend, st, st', h => by
    have key : ∀ pend', (stepA C ops i st).bind (runD C ops bf is pend') = some st' → st'.t.length = st.t.length := fun pend' h => by
      rw [Option.bind_eq_some_iff] at h
      obtain ⟨a, h1, h2⟩ := h
      rw [runD_len is h2, stepA_len h1]
    simp only [runD] at h
    split at h
    · cases h
    · split at h
      · split at h
        · split at h
          · split at h
            · exact key _ h
            · cases h
          · exact key _ h
        · exact key _ h
      · cases h
theorem regionA_len {C : Ctx} {ops : Array Oper} {draw : Bool} {st st' : S} (h : regionA C ops draw st = some st') : st'.t.length = st.t.length := by
  unfold regionA at h
  split at h
  · split at h
    · exact runD_len _ h
    · cases h
  · exact runOps_len _ h
theorem gcW_ok {n0 : Nat} {keep : List Nat} {st : S} {Q : S → Prop} (h : gcW n0 keep st Q) : Q (gcS n0 keep st) := by
  unfold gcW at h
  have h := frcL_ok _ _ h
  unfold gcW2 at h
  exact frcS_ok (frcNs_ok _ _ h)
theorem gcOW_ok {n0 : Nat} {l : Option (List Nat)} {st : S} {Q : S → Prop} (h : gcOW n0 l st Q) : Q (gcO n0 l st) := by
  cases l with
  | none => exact h
  | some l => exact gcW_ok h
theorem gcO_len (n0 : Nat) (l : Option (List Nat)) (st : S) : (gcO n0 l st).t.length = st.t.length := by
  cases l with
  | none => rfl
  | some l => exact gcS_len _ _ _

def CanonX (C : Ctx) (ex : Ex) (st : S) : Prop := ∀ l, keepOf C ex = some l → only 0 l st.t = st.t
def iter1 (body : S → Option (Ex × S)) (cl : S → S) (n : Nat) (st : S) : Option (Ex × S) :=
  match body st with
  | some (.nrm, st') => iter body cl n st'
  | r => r
theorem iter_succ (body : S → Option (Ex × S)) (cl : S → S) (n : Nat) (st : S) : iter body cl (n + 1) st = iter1 body cl n (cl st) := rfl

section
variable (P : Program) (H : Hints) (C : Ctx) (n : Nat)
def LoopOk (c : Code) (l : LW) : Prop := ∀ vals h Q, l vals h Q → ∃ ex ks vals' h', ex ≠ .nrm ∧ keepOf C ex = some ks ∧
  (∃ K, ∀ k m, K ≤ k → K ≤ m → iter1 (exec (atK P H C k) c) (gcS C.n0 (C.keep (firstR c))) m ⟨spread n 0 (C.keep (firstR c)) vals, h⟩ = some (ex, ⟨spread n 0 ks vals', h'⟩)) ∧ Q ex vals' h'
end
section
variable {P : Program} {H : Hints} {O : Orc} {C : Ctx} {n : Nat} {L : Nat → LW}
theorem execW_ok (hO : OkO P H O) (hC : C.P = P) : ∀ (c : Code), (∀ c' ∈ loops c, LoopOk P H C n c' (L (firstR c'))) → ∀ (st : S), st.t.length = n → ∀ (Q : Ex → S → Prop), execW C O L c st Q →
    Ev (fun k => exec (atK P H C k) c st) fun r => CanonX C r.1 r.2 ∧ r.2.t.length = n ∧ Q r.1 r.2
  | .skip, hL, st, hn, Q, hq => Ev.of (fun _ => rfl) ⟨fun l h => by simp [keepOf] at h, hn, hq⟩
  | .region id ops draw, hL, st, hn, Q, hq => by
    simp only [execW] at hq
    simp only [exec]
    obtain ⟨a, ⟨K, e⟩, h2⟩ := regionW_ok hO hC ops draw st _ hq
    exact ⟨(.nrm, a), ⟨K, fun k hk => by have e := e k hk; simp only at e; simp only [e, Option.map_some]⟩, fun l h => by simp [keepOf] at h, by rw [← hn]; exact regionA_len (e K (Nat.le_refl _)), frcS_ok h2⟩
  | .seq x y, hL, st, hn, Q, hq => by
    simp only [execW] at hq
    simp only [exec]
    obtain ⟨⟨ex, st1⟩, ⟨K1, e1⟩, hc, hl, h2⟩ := execW_ok hO hC x (fun c' h => hL c' (by simp [loops, h])) st hn _ hq
    cases ex with
    | nrm =>
      obtain ⟨r, ⟨K2, e2⟩, h3⟩ := execW_ok hO hC y (fun c' h => hL c' (by simp [loops, h])) st1 hl _ h2
      exact ⟨r, ⟨max K1 K2, fun k hk => by have e1 := e1 k (by omega); have e2 := e2 k (by omega); simp only at e1 e2; simp only [e1, e2]⟩, h3⟩
    | exit j => exact ⟨_, ⟨K1, fun k hk => by have e1 := e1 k hk; simp only at e1; simp only [e1]⟩, hc, hl, h2⟩
    | ret => exact ⟨_, ⟨K1, fun k hk => by have e1 := e1 k hk; simp only at e1; simp only [e1]⟩, hc, hl, h2⟩
  | .cond c x y, hL, st, hn, Q, hq => by
    simp only [execW] at hq
    simp only [exec]
    split at hq
    · rename_i b hb
      simp only [hb]
      rcases br_iff.1 hq with ⟨rfl, hq⟩ | ⟨rfl, hq⟩
      · simp only [if_true]
        exact execW_ok hO hC x (fun c' h => hL c' (by simp [loops, h])) st hn _ hq
      · simp only [Bool.false_eq_true, if_false]
        exact execW_ok hO hC y (fun c' h => hL c' (by simp [loops, h])) st hn _ hq
    · exact hq.elim
  | .block id c, hL, st, hn, Q, hq => by
    simp only [execW] at hq
    simp only [exec]
    obtain ⟨⟨ex, st1⟩, ⟨K1, e1⟩, hc, hl, h2⟩ := execW_ok hO hC c (fun c' h => hL c' (by simpa [loops] using h)) st hn _ hq
    cases ex with
    | nrm => exact ⟨_, ⟨K1, fun k hk => by have e1 := e1 k hk; simp only at e1; simp only [e1]⟩, hc, hl, h2⟩
    | exit j =>
      simp only at h2
      split at h2
      · rename_i hj
        have hj := Nat.eq_of_beq_eq_true hj
        exact ⟨(.nrm, st1), ⟨K1, fun k hk => by have e1 := e1 k hk; simp only at e1; simp only [e1, hj, if_true]⟩, fun l h => by simp [keepOf] at h, hl, h2⟩
      · rename_i hj
        have hj := Nat.ne_of_beq_eq_false hj
        exact ⟨(.exit j, st1), ⟨K1, fun k hk => by have e1 := e1 k hk; simp only at e1; simp only [e1, hj, if_false]⟩, hc, hl, h2⟩
    | ret => exact ⟨_, ⟨K1, fun k hk => by have e1 := e1 k hk; simp only at e1; simp only [e1]⟩, hc, hl, h2⟩
  | .loop c, hL, st, hn, Q, hq => by
    simp only [execW] at hq
    simp only [exec]
    have hq := gcW_ok hq
    obtain ⟨ex, ks, vals', h', hne, hk, ⟨K, e⟩, hb⟩ := hL c (by simp [loops]) _ _ _ hq
    have es : (⟨spread n 0 (C.keep (firstR c)) (valsOf 0 (C.keep (firstR c)) (gcS C.n0 (C.keep (firstR c)) st).t), (gcS C.n0 (C.keep (firstR c)) st).h⟩ : S) = gcS C.n0 (C.keep (firstR c)) st := by
      have h1 := spread_vals (gcS C.n0 (C.keep (firstR c)) st).t 0 (C.keep (firstR c))
      rw [gcS_len, hn, gcS_only] at h1
      rw [h1]
    rw [es] at e
    unfold backL at hb
    rw [hk] at hb
    rw [hn] at hb
    refine ⟨(ex, ⟨spread n 0 ks vals', h'⟩), ⟨K + 1, fun k hk => ?_⟩, fun l hl => ?_, spread_len _ _ _ _, hb⟩
    · obtain ⟨m, rfl⟩ : ∃ m, k = m + 1 := ⟨k - 1, by omega⟩
      show iter _ _ (m + 1) st = _
      rw [iter_succ]
      exact e (m + 1) m (by omega) (by omega)
    · simp only at hl
      rw [hk] at hl
      cases hl
      exact only_spread _ _ _ _
  | .exit id, hL, st, hn, Q, hq => by
    simp only [execW] at hq
    simp only [exec]
    refine Ev.of (a := (.exit id, gcO C.n0 (C.keepX id) st)) (fun _ => rfl) ⟨fun l h => ?_, by rw [gcO_len]; exact hn, gcOW_ok hq⟩
    simp only [keepOf] at h
    simp only [h, gcO]
    exact gcS_only _ _ _
  | .ret, hL, st, hn, Q, hq => by
    simp only [execW] at hq
    simp only [exec]
    refine Ev.of (a := (.ret, gcO C.n0 C.keepR st)) (fun _ => rfl) ⟨fun l h => ?_, by rw [gcO_len]; exact hn, gcOW_ok hq⟩
    simp only [keepOf] at h
    simp only [h, gcO]
    exact gcS_only _ _ _
  | .rangeFunc _ _ _ _, _, _, _, _, hq => by simp [execW] at hq
  | .scope _, _, _, _, _, hq => by simp [execW] at hq
  | .label _, _, _, _, _, hq => by simp [execW] at hq
  | .goto _, _, _, _, _, hq => by simp [execW] at hq
  | .refuse _, _, _, _, _, hq => by simp [execW] at hq

/-- What must stand behind a round. -/
def stepQ (l : LW) (μ : List AV → List AObj → Nat) (vals : List AV) (h : List AObj) (Q : Ex → List AV → List AObj → Prop) (ex : Ex) (vals' : List AV) (h' : List AObj) : Prop :=
  match ex with
  | .nrm => μ vals' h' < μ vals h ∧ l vals' h' Q
  | .exit id => Q (.exit id) vals' h'
  | .ret => Q .ret vals' h'
theorem loop_rule (hO : OkO P H O) (hC : C.P = P) {c : Code} (l : LW) (μ : List AV → List AObj → Nat) (hL : ∀ c' ∈ loops c, LoopOk P H C n c' (L (firstR c')))
    (step : ∀ vals h Q, l vals h Q → bodyW C O L n c vals h (stepQ l μ vals h Q)) : LoopOk P H C n c l := by
  have main : ∀ N vals h Q, μ vals h < N → l vals h Q → ∃ ex ks vals' h', ex ≠ .nrm ∧ keepOf C ex = some ks ∧
      (∃ K, ∀ k m, K ≤ k → K ≤ m → iter1 (exec (atK P H C k) c) (gcS C.n0 (C.keep (firstR c))) m ⟨spread n 0 (C.keep (firstR c)) vals, h⟩ = some (ex, ⟨spread n 0 ks vals', h'⟩)) ∧ Q ex vals' h' := by
    intro N
    induction N with
    | zero => intro vals h Q hm; omega
    | succ N ih =>
      intro vals h Q hm hl
      have hb := step vals h Q hl
      unfold bodyW at hb
      obtain ⟨⟨ex, st'⟩, ⟨K1, e1⟩, hc, hlen, hb⟩ := execW_ok hO hC c hL _ (spread_len _ _ _ _) _ hb
      simp only at hc hlen hb
      have fin : ∀ ks, keepOf C ex = some ks → ex ≠ .nrm → Q ex (valsOf 0 ks st'.t) st'.h → ∃ ex ks vals' h', ex ≠ .nrm ∧ keepOf C ex = some ks ∧
          (∃ K, ∀ k m, K ≤ k → K ≤ m → iter1 (exec (atK P H C k) c) (gcS C.n0 (C.keep (firstR c))) m ⟨spread n 0 (C.keep (firstR c)) vals, h⟩ = some (ex, ⟨spread n 0 ks vals', h'⟩)) ∧ Q ex vals' h' := by
        intro ks hk hne hq
        refine ⟨ex, ks, _, _, hne, hk, ⟨K1, fun k m hk1 hm1 => ?_⟩, hq⟩
        have h1 := spread_vals st'.t 0 ks
        rw [hlen, hc ks hk] at h1
        rw [h1]
        have e1 := e1 k hk1
        simp only at e1
        unfold iter1
        rw [e1]
        cases ex with
        | nrm => exact absurd rfl hne
        | exit id => rfl
        | ret => rfl
      cases ex with
      | nrm =>
        have hb := gcW_ok hb
        obtain ⟨hlt, hl2⟩ := hb
        obtain ⟨ex2, ks, vals2, h2, hne, hk, ⟨K2, e2⟩, hq⟩ := ih _ _ Q (by omega) hl2
        refine ⟨ex2, ks, vals2, h2, hne, hk, ⟨max K1 (K2 + 1), fun k m hk1 hm1 => ?_⟩, hq⟩
        have es : (⟨spread n 0 (C.keep (firstR c)) (valsOf 0 (C.keep (firstR c)) (gcS C.n0 (C.keep (firstR c)) st').t), (gcS C.n0 (C.keep (firstR c)) st').h⟩ : S) = gcS C.n0 (C.keep (firstR c)) st' := by
          have h1 := spread_vals (gcS C.n0 (C.keep (firstR c)) st').t 0 (C.keep (firstR c))
          rw [gcS_len, hlen, gcS_only] at h1
          rw [h1]
        rw [es] at e2
        have e1 := e1 k (by omega)
        simp only at e1
        unfold iter1
        rw [e1]
        obtain ⟨m', rfl⟩ : ∃ m', m = m' + 1 := ⟨m - 1, by omega⟩
        show iter _ _ (m' + 1) st' = _
        rw [iter_succ]
        exact e2 k m' (by omega) (by omega)
      | exit id =>
        simp only at hb
        split at hb
        · rename_i l' hk; exact fin l' hk (by simp) hb
        · exact hb.elim
      | ret =>
        simp only at hb
        split at hb
        · rename_i l' hk; exact fin l' hk (by simp) hb
        · exact hb.elim
  exact fun vals h Q hl => main _ vals h Q (Nat.lt_succ_self _) hl

theorem finishW_ok {n0 : Nat} {frz : Option (List (List (List K)))} {h : List AObj} {v : AV} {Q : AV × List AObj → Prop} (hq : finishW n0 frz h v Q) : Q (finish n0 frz h v) := by
  unfold finishW at hq
  unfold finish
  split at hq
  · have h1 := frcH_ok _ _ (frcV_ok _ _ (frVW_ok h v _ hq))
    unfold finW2 at h1
    exact frcH_ok _ _ (frcV_ok _ _ (frcNs_ok _ _ h1))
  · unfold finW2 at hq
    exact frcH_ok _ _ (frcV_ok _ _ (frcNs_ok _ _ hq))
/-- **What path mode says of a function, the interpreter answers.** -/
theorem funW_ok (hO : OkO P H O) {f : FuncId} {args : List AV} {h : List AObj} {Q : AV × List AObj → Prop}
    (hL : ∀ fn c, P.funcs[f]? = some fn → fn.body = some c → ∀ c' ∈ loops c, LoopOk P H (ctxW P H f h.length) (args ++ List.replicate (fn.ntmps - args.length) AV.undef).length c' (L (firstR c')))
    (hq : funW P H O L f args h Q) : Ev (fun k => run P H k f args h) Q := by
  unfold funW at hq
  split at hq
  · exact hq.elim
  rename_i hprim
  split at hq
  · rename_i fn hf
    split at hq
    · rename_i c hb
      obtain ⟨⟨ex, st⟩, ⟨K, e⟩, _, _, h2⟩ := execW_ok hO rfl c (hL fn c hf hb) _ rfl _ hq
      simp only at h2
      have key : ex = .nrm ∨ ex = .ret → (optW (resultsA P st fn.results.toList) fun v => finishW h.length (H.frz f) st.h v Q) → Ev (fun k => run P H k f args h) Q := fun hex h2 => by
        obtain ⟨v, h3, h4⟩ := optW_ok _ _ h2
        refine ⟨_, ⟨K + 1, fun k hk => ?_⟩, finishW_ok h4⟩
        obtain ⟨m, rfl⟩ : ∃ m, k = m + 1 := ⟨k - 1, by omega⟩
        have e := e m (by omega)
        simp only [atK, ctxW] at e
        simp only [run, hprim, hf, hb, e]
        rcases hex with rfl | rfl <;> simp only [h3, Option.map_some]
      cases ex with
      | nrm => exact key (.inl rfl) h2
      | exit id => exact h2.elim
      | ret => exact key (.inr rfl) h2
    · exact hq.elim
  · exact hq.elim
end
end Go.Proofs.YtiemjcchlfbglaaGreatE
/- The law's end: what path mode says of a law, its calls do; rows of arguments. -/
namespace Go.Proofs.YtiemjcchlfbglaaGreatE
open Go Go.RowKit
set_option linter.unusedVariables false

/-- Nothing of ours stands in the world. -/
def e0 (w : World) : En := ⟨fun _ => none, [], w, fun _ => False⟩
theorem sim0 (w : World) : Sim (e0 w) := ⟨fun i j b c d h _ => by simp [e0] at h, fun i b c h => by simp [e0] at h, fun i b c ob h _ => by simp [e0] at h, fun i b c h => by simp [e0] at h, fun b h => h.elim⟩
theorem quiet0 {w : World} {b : Nat} (h : b < w.heap.size) : (e0 w).quiet b := ⟨h, fun o c ob h => by simp [e0] at h⟩
theorem still0 {w : World} {b : Nat} (h : b < w.heap.size) : (e0 w).still b := ⟨quiet0 h, fun h => h⟩

theorem law_ok {P : Program} (hP : okProg P = true) (H : Hints) (hpr : PrOk P H) {g : FuncId} {args : List AV} {cargs : Array Value} {w : World} {v : AV} (hv : VL (e0 w) args cargs.toList)
    (hE : Ev (fun k => run P H k g args []) fun r => r.1 = v) : Calls P g cargs w fun e w' => (∃ cv, e = .returned cv ∧ ∃ E, VR E v cv) ∧ Below w.heap.size w w' := by
  obtain ⟨⟨u, h'⟩, ⟨K, e⟩, hr⟩ := hE
  simp only at hr
  subst hr
  refine (run_ok hP H hpr K g args [] u h' (e K (Nat.le_refl _)) (e0 w) rfl (sim0 w) cargs hv).mono fun en w' hw => ?_
  obtain ⟨cv, ι', he, s, x, wd, hvr⟩ := hw
  exact ⟨⟨cv, he, _, hvr⟩, wd.os, wd.tape, wd.output, wd.size, fun k hk => (x.st k (quiet0 hk)).2⟩
theorem law_true {P : Program} (hP : okProg P = true) (H : Hints) (hpr : PrOk P H) {g : FuncId} {args : List AV} {cargs : Array Value} {w : World} (hv : VL (e0 w) args cargs.toList)
    (hE : Ev (fun k => run P H k g args []) fun r => r.1 = .bool true) : Calls P g cargs w fun e w' => e = .returned (.bool true) ∧ Below w.heap.size w w' :=
  (law_ok hP H hpr hv hE).mono fun e w' ⟨⟨cv, he, E, hvr⟩, b⟩ => ⟨by rw [he]; simp only [VR] at hvr; rw [hvr], b⟩

/-- A cell that holds what it should. -/
theorem rr_of {E : En} {b n : Nat} : ∀ (off : Nat) (rs : List (List AV)), (∀ i j, i < rs.length → j < n → ∃ cv, E.w.cell? ⟨b, off + i * n + j, none⟩ = some cv ∧ cv.oneCell' = true ∧ VR E ((rs.getD i []).getD j .gone) cv) →
    (∀ r ∈ rs, r.length = n) → RR E b n off rs
  | off, [], _, _ => by simp only [RR]
  | off, r :: rs, h, hl => by
    simp only [RR]
    refine ⟨?_, rr_of (off + n) rs (fun i j hi hj => ?_) fun r hr => hl r (by simp [hr])⟩
    · have hr : r.length = n := hl r (by simp)
      have key : ∀ (k : Nat) (l : List AV), (∀ j, j < l.length → ∃ cv, E.w.cell? ⟨b, k + j, none⟩ = some cv ∧ cv.oneCell' = true ∧ VR E (l.getD j .gone) cv) → CR E b k l := by
        intro k l
        induction l generalizing k with
        | nil => intro _; simp only [CR]
        | cons a l ih =>
          intro h
          simp only [CR]
          exact ⟨by simpa using h 0 (by simp), ih (k + 1) fun j hj => by have := h (j + 1) (by simpa using hj); simpa [Nat.add_assoc, Nat.add_comm 1 j] using this⟩
      exact key off r fun j hj => by simpa using h 0 j (by simp) (by omega)
    · have := h (i + 1) j (by simpa using hi) hj
      rw [Nat.succ_mul] at this
      simpa [Nat.add_assoc, Nat.add_comm, Nat.add_left_comm] using this
/-- A row of whole numbers (bytes, too). -/
def irow (k : IntKind) (zs : List Int) : List (List AV) := zs.map fun n => [.int k n]
theorem vr_ints {w : World} {k : IntKind} {a : Option Addr} {len cap : Nat} {zs : List Int}
    (h : (a = none ∧ len = 0 ∧ cap = 0 ∧ zs = []) ∨ ∃ x, a = some x ∧ len ≤ cap ∧ cap ≤ maxLen ∧ zs.length = cap ∧ (∀ i, i < zs.length → w.cell? (x.add i) = some (.int k (zs.getD i 0))) ∧ ∀ n ∈ zs, (Lit.int k n).wf = true)
    : VR (e0 w) (.row a.isNone [.int k] (irow k (zs.take len))) (.slice a len cap) := by
  rcases h with ⟨rfl, rfl, rfl, rfl⟩ | ⟨x, rfl, h1, h2, h3, h4, h5⟩
  · simp only [VR]
    exact ⟨none, 0, by simp [irow], by simp [irow], by simp [maxLen], fun _ => ⟨rfl, rfl⟩, fun h => by simp at h, .inl (by simp [irow])⟩
  · simp only [VR]
    have hl : (irow k (zs.take len)).length = len := by simp [irow]; omega
    refine ⟨some x, cap, by rw [hl], by omega, h2, fun h => by simp at h, fun _ => by simp, ?_⟩
    by_cases h0 : len = 0
    · left; subst h0; simp [irow]
    right
    have hc := h4 0 (by omega)
    obtain ⟨hsp, hb⟩ : x.spot = none ∧ x.block < w.heap.size := by
      have hx : x.add 0 = x := rfl
      rw [hx] at hc
      unfold World.cell? at hc
      split at hc
      · rename_i hh
        refine ⟨?_, (Array.getElem?_eq_some_iff.1 hh).1⟩
        split at hc
        · cases hc
        · rename_i hs; simpa using hs
      · cases hc
    refine ⟨by simp, x.block, x.off, by cases x; simp only at hsp; rw [hsp], still0 hb, fun r hr => ?_, fun r hr => ?_, rr_of _ _ (fun i j hi hj => ?_) fun r hr => ?_⟩
    · simp only [irow, List.mem_map] at hr
      obtain ⟨n, _, rfl⟩ := hr
      exact ⟨rfl, by simp [kOk]⟩
    · simp only [pureR]; rfl
    · rw [hl] at hi
      obtain rfl : j = 0 := by simp at hj; omega
      have := h4 i (by omega)
      refine ⟨.int k (zs.getD i 0), ?_, rfl, ?_⟩
      · rw [← this]
        show w.cell? _ = w.cell? _
        congr 1
        unfold Addr.add
        split
        · rename_i hi0; subst hi0; cases x; simp only at hsp; simp [hsp]
        · simp
      · have hg : (irow k (zs.take len)).getD i [] = [.int k (zs.getD i 0)] := by
          simp only [irow, List.getD_eq_getElem?_getD, List.getElem?_map, List.getElem?_take]
          rw [if_pos hi]
          have : i < zs.length := by omega
          simp [this]
        rw [hg]
        simp only [List.getD_cons_zero, VR]
    · simp only [irow, List.mem_map] at hr
      obtain ⟨n, _, rfl⟩ := hr
      rfl
end Go.Proofs.YtiemjcchlfbglaaGreatE
/- Arguments as they come in, opened by types: the interpreter's values that stand for them. -/
namespace Go.Proofs.YtiemjcchlfbglaaGreatE
open Go Go.WideShapes
set_option linter.unusedVariables false
set_option linter.unusedSimpArgs false

/-- What opening a value of type t gives. -/
def Op (P : Program) (w : World) (t : TypeId) (A : List AV → Prop) : Prop :=
  ∀ (H : Type) (enc : TypeId × Value → H) (base : Nat) (spare : Nat → Bool) (held : Bool) (fuel : Nat) (cs : List Value) (x : DataW H × List MemPlace),
    DataW.trod enc P w base spare held fuel t cs = some x → ∃ avs, VL (e0 w) avs cs ∧ (∀ c ∈ cs, c.oneCell' = true) ∧ A avs
def AInt (k : IntKind) (l : List AV) : Prop := ∃ n, l = [.int k n] ∧ (Lit.int k n).wf = true
def AStr (l : List AV) : Prop := ∃ s : ByteArray, l = [.str s] ∧ s.size ≤ maxLen
def ARow (sh : List K) (A : List AV → Prop) (l : List AV) : Prop := ∃ nl rs, l = [.row nl sh rs] ∧ rs.length ≤ maxLen ∧ ∀ r ∈ rs, A r
def Parts : List (List AV → Prop) → List AV → Prop
  | [], l => l = []
  | A :: As, l => ∃ a b, l = a ++ b ∧ A a ∧ Parts As b
def Ops (P : Program) (w : World) : List Field → List (List AV → Prop) → Prop
  | [], [] => True
  | f :: fs, A :: As => Op P w f.type A ∧ Ops P w fs As
  | _, _ => False
def layOk (P : Program) : Nat → List Field → Nat → Bool
  | off, [], tot => Nat.beq off tot
  | off, f :: fs, tot => Nat.beq f.offset off && layOk P (off + P.cellsOf f.type) fs tot

section
variable {P : Program} {w : World} {t : TypeId}
theorem op_int {k : IntKind} (ht : P.underlying t = some (.int k)) : Op P w t (AInt k) := fun H enc base spare held fuel cs x h => by
  obtain ⟨n, rfl, _, hw⟩ := DataW.trod_int ht h
  exact ⟨[.int k n], by simp [VL, VR], by simp [Value.oneCell'], n, rfl, hw⟩
theorem op_str (ht : P.underlying t = some .string) : Op P w t AStr := fun H enc base spare held fuel cs x h => by
  obtain ⟨s, rfl, _, hw⟩ := DataW.trod_string ht h
  exact ⟨[.str s], by simp [VL, VR], by simp [Value.oneCell'], s, rfl, hw⟩
theorem VL.append {E : En} : ∀ {a b : List AV} {c d : List Value}, VL E a c → VL E b d → VL E (a ++ b) (c ++ d)
  | [], b, [], d, _, h => h
  | x :: a, b, y :: c, d, h, h2 => by
    simp only [VL] at h
    simp only [List.cons_append, VL]
    exact ⟨h.1, VL.append h.2 h2⟩
  | [], b, _ :: _, d, h, _ => by simp [VL] at h
  | _ :: _, b, [], d, h, _ => by simp [VL] at h
theorem VL.at {E : En} : ∀ {a : List AV} {c : List Value}, VL E a c → ∀ (j : Nat) (cv : Value), c[j]? = some cv → VR E (a.getD j .gone) cv
  | [], [], _, j, cv, hj => by simp at hj
  | x :: a, y :: c, h, 0, cv, hj => by simp only [VL] at h; simp at hj; subst hj; exact h.1
  | x :: a, y :: c, h, j + 1, cv, hj => by simp only [VL] at h; simp only [List.getD_cons_succ]; exact VL.at h.2 j cv (by simpa using hj)
  | [], _ :: _, h, _, _, _ => by simp [VL] at h
  | _ :: _, [], h, _, _, _ => by simp [VL] at h
theorem op_parts {H : Type} {enc : TypeId × Value → H} {base : Nat} {spare : Nat → Bool} {held : Bool} {n : Nat} {cs : List Value} : ∀ (fl : List Field) (As : List (List AV → Prop)) (off : Nat),
    Ops P w fl As → layOk P off fl cs.length = true → (∀ f ∈ fl, ∃ x, DataW.trod enc P w base spare held n f.type ((cs.drop f.offset).take (P.cellsOf f.type)) = some x) →
    ∃ avs, VL (e0 w) avs (cs.drop off) ∧ (∀ c ∈ cs.drop off, c.oneCell' = true) ∧ Parts As avs
  | [], [], off, _, hl, _ => by
    have hl := Nat.eq_of_beq_eq_true hl
    refine ⟨[], ?_, ?_, rfl⟩ <;> simp [hl, VL]
  | f :: fl, A :: As, off, ho, hl, hf => by
    simp only [layOk, Bool.and_eq_true] at hl
    have ho1 : f.offset = off := Nat.eq_of_beq_eq_true hl.1
    obtain ⟨x, hx⟩ := hf f (by simp)
    rw [ho1] at hx
    obtain ⟨a, h1, h2, h3⟩ := ho.1 _ _ _ _ _ _ _ _ hx
    obtain ⟨b, k1, k2, k3⟩ := op_parts fl As (off + P.cellsOf f.type) ho.2 hl.2 fun g hg => hf g (by simp [hg])
    have e : cs.drop off = (cs.drop off).take (P.cellsOf f.type) ++ cs.drop (off + P.cellsOf f.type) := by
      rw [← List.drop_drop]; exact (List.take_append_drop _ _).symm
    refine ⟨a ++ b, ?_, ?_, a, b, rfl, h3, k3⟩
    · rw [e]; exact VL.append h1 k1
    · intro c hc
      rw [e, List.mem_append] at hc
      exact hc.elim (h2 c) (k2 c)
  | [], _ :: _, _, h, _, _ => h.elim
  | _ :: _, [], _, h, _, _ => h.elim
theorem op_struct {fs : Array Field} {As : List (List AV → Prop)} (ht : P.underlying t = some (.struct fs)) (hl : layOk P 0 fs.toList (P.cellsOf t) = true) (ho : Ops P w fs.toList As) : Op P w t (Parts As) :=
  fun H enc base spare held fuel cs x h => by
  obtain ⟨xs, n, _, _, hlen, hxl, hg⟩ := DataW.trod_struct ht h
  have := op_parts (cs := cs) (enc := enc) (base := base) (spare := spare) (held := held) (n := n) fs.toList As 0 ho (by rw [hlen]; exact hl) fun f hf => by
    obtain ⟨i, hi, rfl⟩ := List.mem_iff_getElem.1 hf
    have hi' : i < fs.size := by simpa using hi
    have := hg i fs[i] (by simp [hi'])
    refine ⟨xs[i]'(by omega), ?_⟩
    simp only [Array.getElem_toList]
    rw [this]
    exact List.getElem?_eq_getElem _
  simpa using this
theorem op_slice {e : TypeId} {sh : List K} {A : List AV → Prop} (ht : P.underlying t = some (.slice e)) (hs : P.cellsOf e = sh.length) (h0 : 0 < sh.length) (hA : Op P w e A)
    (hp : ∀ r, A r → rowOk sh r ∧ pureR sh r = true) : Op P w t (ARow sh A) := fun H enc base spare held fuel cs x h => by
  rcases DataW.trod_slice ht h with ⟨rfl, _⟩ | ⟨a, len, cap, elems, rest, n, _, rfl, _, hb, hlc, hcm, hel, hx, _, _⟩
  · refine ⟨[.row true sh []], ?_, by simp [Value.oneCell'], true, [], rfl, by simp, by simp⟩
    simp only [VL, VR, and_true]
    exact ⟨none, 0, by simp, by simp, by simp [maxLen], fun _ => ⟨rfl, rfl⟩, fun h => by simp at h, .inl trivial⟩
  -- each element
  have key : ∀ i, i < len → ∃ ci avs, w.cells? base (a.add (i * sh.length)) sh.length = some ci ∧ VL (e0 w) avs ci ∧ (∀ c ∈ ci, c.oneCell' = true) ∧ A avs := fun i hi => by
    have h1 := hx i hi
    rw [hs, List.getElem?_eq_getElem (by omega)] at h1
    obtain ⟨ci, h2, h3⟩ := Option.bind_eq_some_iff.1 h1
    obtain ⟨avs, h4, h5, h6⟩ := hA _ _ _ _ _ _ _ _ h3
    exact ⟨ci, avs, h2, h4, h5, h6⟩
  obtain ⟨rs, hrl, hr⟩ : ∃ rs : List (List AV), rs.length = len ∧ ∀ i, i < len → ∃ ci, w.cells? base (a.add (i * sh.length)) sh.length = some ci ∧ VL (e0 w) (rs.getD i []) ci ∧ (∀ c ∈ ci, c.oneCell' = true) ∧ A (rs.getD i []) := by
    suffices ∀ m, m ≤ len → ∃ rs : List (List AV), rs.length = m ∧ ∀ i, i < m → ∃ ci, w.cells? base (a.add (i * sh.length)) sh.length = some ci ∧ VL (e0 w) (rs.getD i []) ci ∧ (∀ c ∈ ci, c.oneCell' = true) ∧ A (rs.getD i []) from this len (Nat.le_refl _)
    intro m
    induction m with
    | zero => exact fun _ => ⟨[], rfl, fun i hi => absurd hi (by omega)⟩
    | succ m ih =>
      intro hm
      obtain ⟨rs, hl, hr⟩ := ih (by omega)
      obtain ⟨ci, avs, k1, k2, k3, k4⟩ := key m (by omega)
      refine ⟨rs ++ [avs], by simp [hl], fun i hi => ?_⟩
      by_cases him : i < m
      · have e : (rs ++ [avs]).getD i [] = rs.getD i [] := by simp [List.getD_eq_getElem?_getD, List.getElem?_append_left (show i < rs.length by omega)]
        rw [e]; exact hr i him
      · obtain rfl : i = m := by omega
        have e : (rs ++ [avs]).getD i [] = avs := by simp [List.getD_eq_getElem?_getD, ← hl]
        rw [e]; exact ⟨ci, k1, k2, k3, k4⟩
  have mem : ∀ r ∈ rs, A r := fun r hm => by
    obtain ⟨i, hi, rfl⟩ := List.mem_iff_getElem.1 hm
    obtain ⟨_, _, _, _, h4⟩ := hr i (by omega)
    simpa [List.getD_eq_getElem?_getD, List.getElem?_eq_getElem hi] using h4
  refine ⟨[.row false sh rs], ?_, by simp [Value.oneCell'], false, rs, rfl, by omega, mem⟩
  simp only [VL, VR, and_true]
  refine ⟨some a, cap, by rw [hrl], by omega, hcm, fun h => by simp at h, fun _ => by simp, ?_⟩
  by_cases hl0 : len = 0
  · left; exact List.eq_nil_of_length_eq_zero (by omega)
  right
  have cell : ∀ i, i < len → ∀ j, j < sh.length → ∃ cv, w.cell? ((a.add (i * sh.length)).add j) = some cv ∧ cv.oneCell' = true ∧ VR (e0 w) ((rs.getD i []).getD j .gone) cv := fun i hi j hj => by
    obtain ⟨ci, k1, k2, k3, _⟩ := hr i hi
    unfold World.cells? at k1
    split at k1
    · have hl := mapM_some_length k1
      simp at hl
      have hc := mapM_some_get k1 j j (by simp [hj])
      obtain ⟨cv, hcv⟩ : ∃ cv, ci[j]? = some cv := ⟨_, List.getElem?_eq_getElem (by omega)⟩
      rw [hcv] at hc
      exact ⟨cv, hc, k3 cv (List.mem_of_getElem? hcv), k2.at j cv hcv⟩
    · cases k1
  obtain ⟨cv, hc, _⟩ := cell 0 (by omega) 0 h0
  obtain ⟨hsp, hbl⟩ : a.spot = none ∧ a.block < w.heap.size := by
    have hx : (a.add (0 * sh.length)).add 0 = a := by simp [Addr.add]
    rw [hx] at hc
    unfold World.cell? at hc
    split at hc
    · rename_i hh
      refine ⟨?_, (Array.getElem?_eq_some_iff.1 hh).1⟩
      split at hc
      · cases hc
      · rename_i hs; simpa using hs
    · cases hc
  refine ⟨h0, a.block, a.off, by cases a; simp only at hsp; rw [hsp], still0 hbl, fun r hm => (hp r (mem r hm)).1, fun r hm => (hp r (mem r hm)).2, rr_of _ _ (fun i j hi hj => ?_) fun r hm => (hp r (mem r hm)).1.1⟩
  obtain ⟨cv, h1, h2, h3⟩ := cell i (by omega) j hj
  refine ⟨cv, ?_, h2, h3⟩
  rw [← h1]
  show w.cell? _ = w.cell? _
  congr 1
  cases a
  simp only at hsp
  subst hsp
  unfold Addr.add
  split <;> split <;> simp_all [Nat.add_assoc]

/-- An argument. -/
theorem arg_one {A : List AV → Prop} (h : Op P w t A) {H : Type} {enc : TypeId × Value → H} {base : Nat} {spare : Nat → Bool} {held : Bool} {v : Value} {x : DataW H} {p : List MemPlace}
    (hv : DataW.Trod enc P w base spare held t v x p) (hc : v.cells.toList = [v]) : ∃ a, VR (e0 w) a v ∧ A [a] := by
  obtain ⟨fuel, hf⟩ := hv
  obtain ⟨avs, h1, h2, h3⟩ := h H enc base spare held fuel _ _ hf
  rw [hc] at h1
  match avs, h1 with
  | [a], h1 => simp only [VL, and_true] at h1; exact ⟨a, h1, h3⟩
theorem arg_int {k : IntKind} (ht : P.underlying t = some (.int k)) {W : World} {r : Reach} {b0 : Nat} {H : Type} {enc : TypeId × Value → H} {base : Nat} {spare : Nat → Bool} {held : Bool} {v : Value} {x : DataW H} {p : List MemPlace}
    (ho : Value.okWide P W r b0 t v) (hv : DataW.Trod enc P w base spare held t v x p) : ∃ n, VR (e0 w) (.int k n) v ∧ (Lit.int k n).wf = true := by
  obtain ⟨n, rfl⟩ := okWide_int ht ho
  obtain ⟨a, h1, m, h2, h3⟩ := arg_one (op_int ht) hv rfl
  simp only [List.cons.injEq, and_true] at h2
  subst h2
  exact ⟨m, h1, h3⟩
theorem arg_str (ht : P.underlying t = some .string) {W : World} {r : Reach} {b0 : Nat} {H : Type} {enc : TypeId × Value → H} {base : Nat} {spare : Nat → Bool} {held : Bool} {v : Value} {x : DataW H} {p : List MemPlace}
    (ho : Value.okWide P W r b0 t v) (hv : DataW.Trod enc P w base spare held t v x p) : ∃ s, VR (e0 w) (.str s) v ∧ s.size ≤ maxLen := by
  obtain ⟨n, rfl⟩ := okWide_string ht ho
  obtain ⟨a, h1, m, h2, h3⟩ := arg_one (op_str ht) hv rfl
  simp only [List.cons.injEq, and_true] at h2
  subst h2
  exact ⟨m, h1, h3⟩
theorem arg_slice {e : TypeId} {sh : List K} {A : List AV → Prop} (ht : P.underlying t = some (.slice e)) (h : Op P w t (ARow sh A)) {W : World} {r : Reach} {b0 : Nat} {H : Type} {enc : TypeId × Value → H} {base : Nat} {spare : Nat → Bool} {held : Bool} {v : Value} {x : DataW H} {p : List MemPlace}
    (ho : Value.okWide P W r b0 t v) (hv : DataW.Trod enc P w base spare held t v x p) : ∃ nl rs, VR (e0 w) (.row nl sh rs) v ∧ rs.length ≤ maxLen ∧ ∀ r ∈ rs, A r := by
  obtain ⟨a1, l1, c1, rfl⟩ := okWide_slice ht ho
  obtain ⟨a, h1, nl, rs, h2, h3, h4⟩ := arg_one h hv rfl
  simp only [List.cons.injEq, and_true] at h2
  subst h2
  exact ⟨nl, rs, h1, h3, h4⟩
theorem arg_struct {fs : Array Field} {A : List AV → Prop} (ht : P.underlying t = some (.struct fs)) (h : Op P w t A) {W : World} {r : Reach} {b0 : Nat} {H : Type} {enc : TypeId × Value → H} {base : Nat} {spare : Nat → Bool} {held : Bool} {v : Value} {x : DataW H} {p : List MemPlace}
    (ho : Value.okWide P W r b0 t v) (hv : DataW.Trod enc P w base spare held t v x p) : ∃ cs, VR (e0 w) (.agg cs) v ∧ A cs := by
  obtain ⟨cs, rfl, _⟩ := okWide_struct ht ho
  obtain ⟨fuel, hf⟩ := hv
  obtain ⟨avs, h1, h2, h3⟩ := h H enc base spare held fuel _ _ hf
  refine ⟨avs, ?_, h3⟩
  simp only [VR]
  exact ⟨cs, rfl, h1, h2⟩
theorem rows_ints {k : IntKind} : ∀ (rs : List (List AV)), (∀ r ∈ rs, AInt k r) → ∃ zs, rs = irow k zs ∧ ∀ n ∈ zs, (Lit.int k n).wf = true
  | [], _ => ⟨[], rfl, by simp⟩
  | r :: rs, h => by
    obtain ⟨n, rfl, hw⟩ := h r (by simp)
    obtain ⟨zs, rfl, hz⟩ := rows_ints rs fun r hr => h r (by simp [hr])
    exact ⟨n :: zs, rfl, by simpa using ⟨hw, hz⟩⟩
theorem int_pure {k : IntKind} {r : List AV} (h : AInt k r) : rowOk [.int k] r ∧ pureR [.int k] r = true := by
  obtain ⟨n, rfl, _⟩ := h
  exact ⟨⟨rfl, by simp [kOk]⟩, rfl⟩
end
end Go.Proofs.YtiemjcchlfbglaaGreatE
/- Path mode with functions inlined and loops unrolled; only where a table says so is a spec taken. -/
namespace Go.Proofs.YtiemjcchlfbglaaGreatE
open Go
set_option linter.unusedVariables false

/-- What must be shown, and is not worked out by the kernel. -/
inductive Hyp (p : Prop) : Prop where
  | mk (h : p)
theorem Hyp.get {p : Prop} : Hyp p → p | .mk h => h
theorem hyp_iff {p A : Prop} : Hyp p ∧ A ↔ p ∧ A := ⟨fun h => ⟨h.1.get, h.2⟩, fun h => ⟨.mk h.1, h.2⟩⟩
theorem loops_sub : ∀ (b c : Code), c ∈ loops b → ∀ d ∈ loops c, d ∈ loops b
  | .seq x y, c, h, d, hd => by
    simp only [loops, List.mem_append] at h ⊢
    exact h.elim (fun h => .inl (loops_sub x c h d hd)) fun h => .inr (loops_sub y c h d hd)
  | .cond _ x y, c, h, d, hd => by
    simp only [loops, List.mem_append] at h ⊢
    exact h.elim (fun h => .inl (loops_sub x c h d hd)) fun h => .inr (loops_sub y c h d hd)
  | .block _ x, c, h, d, hd => by simp only [loops] at h ⊢; exact loops_sub x c h d hd
  | .loop x, c, h, d, hd => by
    simp only [loops, List.mem_cons] at h ⊢
    rcases h with rfl | h
    · exact .inr hd
    · exact .inr (loops_sub x c h d hd)
  | .skip, _, h, _, _ | .region _ _ _, _, h, _, _ | .exit _, _, h, _, _ | .ret, _, h, _, _ | .rangeFunc _ _ _ _, _, h, _, _ | .scope _, _, h, _, _ | .label _, _, h, _, _ | .goto _, _, h, _, _ | .refuse _, _, h, _, _ => by simp [loops] at h

def onceQ (l : LW) (Q : Ex → List AV → List AObj → Prop) (ex : Ex) (vals : List AV) (h : List AObj) : Prop :=
  match ex with
  | .nrm => l vals h Q
  | .exit id => Q (.exit id) vals h
  | .ret => Q .ret vals h
section
variable {P : Program} {H : Hints} {O : Orc} {C : Ctx} {n : Nat} {L : Nat → LW}
theorem loop_once (hO : OkO P H O) (hC : C.P = P) {c : Code} {l : LW} (hL : ∀ c' ∈ loops c, LoopOk P H C n c' (L (firstR c'))) (hl : LoopOk P H C n c l) :
    LoopOk P H C n c fun vals h Q => bodyW C O L n c vals h (onceQ l Q) := by
  intro vals h Q hb
  unfold bodyW at hb
  obtain ⟨⟨ex, st'⟩, ⟨K1, e1⟩, hc, hlen, hb⟩ := execW_ok hO hC c hL _ (spread_len _ _ _ _) _ hb
  simp only at hc hlen hb
  have fin : ∀ ks, keepOf C ex = some ks → ex ≠ .nrm → Q ex (valsOf 0 ks st'.t) st'.h → ∃ ex ks vals' h', ex ≠ .nrm ∧ keepOf C ex = some ks ∧
      (∃ K, ∀ k m, K ≤ k → K ≤ m → iter1 (exec (atK P H C k) c) (gcS C.n0 (C.keep (firstR c))) m ⟨spread n 0 (C.keep (firstR c)) vals, h⟩ = some (ex, ⟨spread n 0 ks vals', h'⟩)) ∧ Q ex vals' h' := by
    intro ks hk hne hq
    refine ⟨ex, ks, _, _, hne, hk, ⟨K1, fun k m hk1 hm1 => ?_⟩, hq⟩
    have h1 := spread_vals st'.t 0 ks
    rw [hlen, hc ks hk] at h1
    rw [h1]
    have e1 := e1 k hk1
    simp only at e1
    unfold iter1
    rw [e1]
    cases ex with
    | nrm => exact absurd rfl hne
    | exit id => rfl
    | ret => rfl
  cases ex with
  | nrm =>
    have hb := gcW_ok hb
    simp only [onceQ] at hb
    obtain ⟨ex2, ks, vals2, h2, hne, hk, ⟨K2, e2⟩, hq⟩ := hl _ _ _ hb
    refine ⟨ex2, ks, vals2, h2, hne, hk, ⟨max K1 (K2 + 1), fun k m hk1 hm1 => ?_⟩, hq⟩
    have es : (⟨spread n 0 (C.keep (firstR c)) (valsOf 0 (C.keep (firstR c)) (gcS C.n0 (C.keep (firstR c)) st').t), (gcS C.n0 (C.keep (firstR c)) st').h⟩ : S) = gcS C.n0 (C.keep (firstR c)) st' := by
      have h1 := spread_vals (gcS C.n0 (C.keep (firstR c)) st').t 0 (C.keep (firstR c))
      rw [gcS_len, hlen, gcS_only] at h1
      rw [h1]
    rw [es] at e2
    have e1 := e1 k (by omega)
    simp only at e1
    unfold iter1
    rw [e1]
    obtain ⟨m', rfl⟩ : ∃ m', m = m' + 1 := ⟨m - 1, by omega⟩
    show iter _ _ (m' + 1) st' = _
    rw [iter_succ]
    exact e2 k m' (by omega) (by omega)
  | exit id =>
    simp only at hb
    split at hb
    · rename_i l' hk; exact fin l' hk (by simp) hb
    · exact hb.elim
  | ret =>
    simp only at hb
    split at hb
    · rename_i l' hk; exact fin l' hk (by simp) hb
    · exact hb.elim
end

/-! ### Loops unrolled -/
def findL (r : Nat) : List Code → Option Code
  | [] => none
  | c :: l => match Nat.beq (firstR c) r with
    | true => some c
    | false => findL r l
def memN (r : Nat) : List Code → Bool
  | [] => false
  | c :: l => Nat.beq (firstR c) r || memN r l
def dist : List Code → Bool
  | [] => true
  | c :: l => !memN (firstR c) l && dist l
theorem findL_of : ∀ {cs : List Code}, dist cs = true → ∀ c ∈ cs, findL (firstR c) cs = some c
  | [], _, c, h => by simp at h
  | d :: l, hd, c, h => by
    simp only [dist, Bool.and_eq_true, Bool.not_eq_true'] at hd
    simp only [findL]
    rcases List.mem_cons.1 h with rfl | h
    · simp
    · have : ∀ {l : List Code}, c ∈ l → memN (firstR c) l = true := by
        intro l
        induction l with
        | nil => intro h; simp at h
        | cons a l ih =>
          intro h
          simp only [memN, Bool.or_eq_true]
          rcases List.mem_cons.1 h with rfl | h
          · left; simp
          · right; exact ih h
      split
      · rename_i e
        have e := Nat.eq_of_beq_eq_true e
        rw [e, this h] at hd
        simp at hd
      · exact findL_of hd.2 c h
def lpOf (g : FuncId) (r : Nat) : List (FuncId × Nat × LW) → Option LW
  | [] => none
  | (g', r', l) :: t => match Nat.beq g' g, Nat.beq r' r with
    | true, true => some l
    | _, _ => lpOf g r t
def unrL (C : Ctx) (O : Orc) (n : Nat) (cs : List Code) (SL : Nat → Option LW) : Nat → Nat → LW
  | 0, r => match SL r with
    | some l => l
    | none => fun _ _ _ => False
  | u + 1, r => match SL r with
    | some l => l
    | none => match findL r cs with
      | some c => fun vals h Q => bodyW C O (unrL C O n cs SL u) n c vals h (onceQ (unrL C O n cs SL u r) Q)
      | none => fun _ _ _ => False
theorem unrL_ok {P : Program} {H : Hints} {O : Orc} {C : Ctx} {n : Nat} (hO : OkO P H O) (hC : C.P = P) {b : Code} (hd : dist (loops b) = true) {SL : Nat → Option LW}
    (hs : ∀ c ∈ loops b, ∀ l, SL (firstR c) = some l → LoopOk P H C n c l) : ∀ (u : Nat) (c : Code), c ∈ loops b → LoopOk P H C n c (unrL C O n (loops b) SL u (firstR c))
  | 0, c, hc => by
    unfold unrL
    split
    · rename_i l hl; exact hs c hc l hl
    · intro vals h Q hq; exact hq.elim
  | u + 1, c, hc => by
    unfold unrL
    split
    · rename_i l hl; exact hs c hc l hl
    · rw [findL_of hd c hc]
      exact loop_once hO hC (fun c' hc' => unrL_ok hO hC hd hs u c' (loops_sub b c hc c' hc')) (unrL_ok hO hC hd hs u c hc)

/-! ### Functions inlined -/
abbrev SW := List AV → List AObj → (AV × List AObj → Prop) → Prop
structure Sp where
  fn : List (FuncId × SW)
  lp : List (FuncId × Nat × LW)
def fnOf (g : FuncId) : List (FuncId × SW) → Option SW
  | [] => none
  | (g', s) :: t => match Nat.beq g' g with
    | true => some s
    | false => fnOf g t
/-- A loop's key: its first region, and 1000 for each object that was handed in. -/
def lpAt (g : FuncId) (n0 : Nat) (S : Sp) (r : Nat) : Option LW :=
  match Nat.ble r 999 with
  | true => lpOf g (r + 1000 * n0) S.lp
  | false => none
def lpW (g : FuncId) (n n0 m : Nat) (S : Sp) (r : Nat) : Option LW :=
  match Nat.beq n m with
  | true => lpAt g n0 S r
  | false => none
def inlW (P : Program) (H : Hints) (S : Sp) (U : Nat) (O : Orc) (g : FuncId) (args : List AV) (h : List AObj) (Q : AV × List AObj → Prop) : Prop :=
  match P.funcs[g]? with
  | some fn => match fn.body with
    | some c => chk (dist (loops c) = true) (funW P H O (unrL (ctxW P H g h.length) O (args ++ List.replicate (fn.ntmps - args.length) AV.undef).length (loops c) (lpW g (args ++ List.replicate (fn.ntmps - args.length) AV.undef).length h.length fn.ntmps S) U) g args h Q)
    | none => False
  | none => False
def InO (P : Program) (H : Hints) (S : Sp) (U : Nat) : Nat → Orc
  | 0 => fun g args h Q => match fnOf g S.fn with
    | some s => s args h Q
    | none => False
  | k + 1 => fun g args h Q => match fnOf g S.fn with
    | some s => s args h Q
    | none => inlW P H S U (InO P H S U k) g args h Q
/-- A spec is sound. -/
def OkS (P : Program) (H : Hints) (g : FuncId) (s : SW) : Prop := ∀ a h Q, s a h Q → Ev (fun k => run P H k g a h) Q
def OkF (P : Program) (H : Hints) : List (FuncId × SW) → Prop
  | [] => True
  | (g, s) :: t => OkS P H g s ∧ OkF P H t
/-- What is said of a loop holds. -/
def OkLp (P : Program) (H : Hints) (g : FuncId) (r : Nat) (l : LW) : Prop := ∀ fn c, P.funcs[g]? = some fn → fn.body = some c → ∀ c' ∈ loops c, firstR c' = r % 1000 → LoopOk P H (ctxW P H g (r / 1000)) fn.ntmps c' l
def OkL (P : Program) (H : Hints) : List (FuncId × Nat × LW) → Prop
  | [] => True
  | (g, r, l) :: t => OkLp P H g r l ∧ OkL P H t
structure OkSp (P : Program) (H : Hints) (S : Sp) : Prop where
  fn : OkF P H S.fn
  lp : OkL P H S.lp
section
variable {P : Program} {H : Hints} {S : Sp} {U : Nat}
theorem fnOf_ok {g : FuncId} {s : SW} : ∀ {l : List (FuncId × SW)}, OkF P H l → fnOf g l = some s → OkS P H g s
  | [], _, h => by simp [fnOf] at h
  | (g', s') :: t, ho, h => by
    simp only [fnOf] at h
    split at h
    · rename_i e; have e := Nat.eq_of_beq_eq_true e; subst e; cases h; exact ho.1
    · exact fnOf_ok ho.2 h
theorem lpOf_ok {g : FuncId} {r : Nat} {s : LW} : ∀ {l : List (FuncId × Nat × LW)}, OkL P H l → lpOf g r l = some s → OkLp P H g r s
  | [], _, h => by simp [lpOf] at h
  | (g', r', s') :: t, ho, h => by
    simp only [lpOf] at h
    split at h
    · rename_i e1 e2; have e1 := Nat.eq_of_beq_eq_true e1; have e2 := Nat.eq_of_beq_eq_true e2; subst e1; subst e2; cases h; exact ho.1
    · exact lpOf_ok ho.2 h
theorem lpAt_ok {g : FuncId} {n0 : Nat} {l : LW} (hS : OkL P H S.lp) {fn : Func} {b c' : Code} (hl : lpAt g n0 S (firstR c') = some l) (hf : P.funcs[g]? = some fn) (hb : fn.body = some b) (hc : c' ∈ loops b) : LoopOk P H (ctxW P H g n0) fn.ntmps c' l := by
  unfold lpAt at hl
  split at hl
  · rename_i e
    have e := Nat.le_of_ble_eq_true e
    have := lpOf_ok hS hl fn b hf hb c' hc (by omega)
    rwa [show (firstR c' + 1000 * n0) / 1000 = n0 by omega] at this
  · cases hl
theorem inlW_ok (hS : OkSp P H S) {O : Orc} (hO : OkO P H O) {g : FuncId} {args : List AV} {h : List AObj} {Q : AV × List AObj → Prop} (hq : inlW P H S U O g args h Q) : Ev (fun k => run P H k g args h) Q := by
  unfold inlW at hq
  split at hq
  · rename_i fn hf
    split at hq
    · rename_i c hb
      obtain ⟨hd, hq⟩ := chk_iff.1 hq
      refine funW_ok hO (fun fn' c' hf' hb' d hdm => ?_) hq
      rw [hf] at hf'; cases hf'
      rw [hb] at hb'; cases hb'
      refine unrL_ok hO rfl hd (fun c' hc' l hl => ?_) U d hdm
      unfold lpW at hl
      split at hl
      · rename_i e
        have e2 := Nat.eq_of_beq_eq_true e
        rw [e2]
        exact lpAt_ok hS.lp hl hf hb hc'
      · cases hl
    · exact hq.elim
  · exact hq.elim
theorem inO_ok (hS : OkSp P H S) : ∀ k, OkO P H (InO P H S U k)
  | 0 => fun g a h Q hq => by
    unfold InO at hq
    split at hq
    · rename_i s hs; exact fnOf_ok hS.fn hs a h Q hq
    · exact hq.elim
  | k + 1 => fun g a h Q hq => by
    unfold InO at hq
    split at hq
    · rename_i s hs; exact fnOf_ok hS.fn hs a h Q hq
    · exact inlW_ok hS (inO_ok hS k) hq
theorem in_ok (hS : OkSp P H S) {k : Nat} {g : FuncId} {args : List AV} {h : List AObj} {Q : AV × List AObj → Prop} (hq : inlW P H S U (InO P H S U k) g args h Q) : Ev (fun k => run P H k g args h) Q :=
  inlW_ok hS (inO_ok hS k) hq
end
/-- A loop's body, once, of function g. -/
def lpBody (P : Program) (H : Hints) (S : Sp) (U k : Nat) (g : FuncId) (r : Nat) (vals : List AV) (h : List AObj) (Q : Ex → List AV → List AObj → Prop) : Prop :=
  match P.funcs[g]? with
  | some fn => match fn.body with
    | some b => match findL (r % 1000) (loops b) with
      | some c => chk (dist (loops b) = true) (bodyW (ctxW P H g (r / 1000)) (InO P H S U k) (unrL (ctxW P H g (r / 1000)) (InO P H S U k) fn.ntmps (loops b) (lpAt g (r / 1000) S) U) fn.ntmps c vals h Q)
      | none => False
    | none => False
  | none => False
/-- A loop's spec, by a measure. -/
theorem okLp_of {P : Program} {H : Hints} {S : Sp} {U : Nat} (hS : OkSp P H S) {g : FuncId} {r k : Nat} (l : LW) (μ : List AV → List AObj → Nat)
    (step : ∀ vals h Q, l vals h Q → lpBody P H S U k g r vals h (stepQ l μ vals h Q)) : OkLp P H g r l := by
  intro fn b hf hb c' hc' hr vals h Q hl
  have key : ∀ vals h Q, lpBody P H S U k g r vals h Q → dist (loops b) = true ∧ bodyW (ctxW P H g (r / 1000)) (InO P H S U k) (unrL (ctxW P H g (r / 1000)) (InO P H S U k) fn.ntmps (loops b) (lpAt g (r / 1000) S) U) fn.ntmps c' vals h Q := by
    intro vals h Q hq
    unfold lpBody at hq
    simp only [hf, hb] at hq
    split at hq
    · rename_i c hc
      obtain ⟨hd, hq⟩ := chk_iff.1 hq
      have := findL_of hd c' hc'
      rw [hr, hc] at this
      cases this
      exact ⟨hd, hq⟩
    · exact hq.elim
  have hd := (key _ _ _ (step vals h Q hl)).1
  exact loop_rule (inO_ok hS k) rfl l μ (fun d hdm => unrL_ok (inO_ok hS k) rfl hd (fun c' hc' l hl => lpAt_ok hS.lp hl hf hb hc') U d (loops_sub b c' hc' d hdm))
    (fun vals h Q hl => (key _ _ _ (step vals h Q hl)).2) vals h Q hl
end Go.Proofs.YtiemjcchlfbglaaGreatE
/- Objects given up while their blocks change; worlds with the same heap. -/
namespace Go.Proofs.YtiemjcchlfbglaaGreatE
open Go
set_option linter.unusedVariables false

section
variable {E : En}
theorem heap_ok {w' : World} (s : Sim E) (hw : w'.heap = E.w.heap) : Sim ⟨E.ι, E.h, w', E.X⟩ ∧ Ext E ⟨E.ι, E.h, w', E.X⟩ := by
  have x : Ext E ⟨E.ι, E.h, w', E.X⟩ := by
    refine ⟨fun o ob h => ⟨ob, h, .inr ⟨rfl, fun _ h => h, fun _ _ _ _ _ _ _ _ h1 h2 => by rw [h1] at h2; cases h2; rfl⟩⟩, fun b h => ⟨⟨by show b < w'.heap.size; rw [hw]; exact h.1, h.2⟩, by show w'.heap[b]? = _; rw [hw]⟩, fun j _ c h => .inr ⟨j, c, h⟩, by show E.w.heap.size ≤ w'.heap.size; rw [hw]; exact Nat.le_refl _, rfl⟩
  exact ⟨⟨s.inj, fun i b c hi => ⟨(s.lt i b c hi).1, by show b < w'.heap.size; rw [hw]; exact (s.lt i b c hi).2⟩, fun i b c ob hi ho => OR.ext x (by show w'.heap[b]? = _; rw [hw]) ob (s.obj i b c ob hi ho), s.nx, fun b hb => by show b < w'.heap.size; rw [hw]; exact s.xlt b hb⟩, x⟩
/-- A row is given up, and its block changes. -/
theorem killw_ok {o g c : Nat} {md : Nat} {e : TypeId} {sh : List K} {rs : List (List AV)} {w' : World} (s : Sim E) (hι : E.ι o = some (g, c)) (ho : E.h[o]? = some (.arr md e sh rs)) (hm : md ≠ 0)
    (hsz : w'.heap.size = E.w.heap.size) (hw : ∀ b', b' ≠ g → w'.heap[b']? = E.w.heap[b']?) :
    Sim ⟨upd E.ι o none, E.h.set o .dead, w', E.X⟩ ∧ Ext E ⟨upd E.ι o none, E.h.set o .dead, w', E.X⟩ := by
  have hlt : o < E.h.length := (List.getElem?_eq_some_iff.1 ho).1
  have hstill : ∀ b', E.quiet b' → b' ≠ g := fun b' h e' => by
    subst e'
    have := h.2 o c _ hι ho
    simp [AObj.mut] at this
    exact hm this
  have cas : ∀ i p, upd E.ι o none i = some p → i ≠ o ∧ E.ι i = some p := fun i p hi => by
    unfold upd at hi
    split at hi
    · cases hi
    · rename_i h; exact ⟨h, hi⟩
  have hold : ∀ i, i ≠ o → (E.h.set o .dead)[i]? = E.h[i]? := fun i hio => by rw [List.getElem?_set, if_neg (Ne.symm hio)]
  have x : Ext E ⟨upd E.ι o none, E.h.set o .dead, w', E.X⟩ := by
    refine ⟨fun i obi hi => ?_, fun b' h => ⟨⟨by show b' < w'.heap.size; rw [hsz]; exact h.1, fun i ci obi hi hobi => ?_⟩, hw b' (hstill b' h)⟩, fun j b1 c1 hj => ?_, by show E.w.heap.size ≤ w'.heap.size; omega, rfl⟩
    · by_cases hio : i = o
      · subst hio; exact ⟨.dead, by simp [hlt], .inl rfl⟩
      · exact ⟨obi, (hold i hio).trans hi, .inr ⟨rfl, fun p hp => by show upd E.ι o none i = some p; unfold upd; rw [if_neg hio]; exact hp, fun _ _ _ _ _ _ _ _ e1 e2 => (by rw [e1] at e2; cases e2; rfl)⟩⟩
    · obtain ⟨h1, h2⟩ := cas i _ hi
      exact h.2 i ci obi h2 ((hold i h1).symm.trans hobi)
    · exact .inr ⟨j, c1, (cas j _ hj).2⟩
  refine ⟨⟨fun i j b1 c1 c2 hi hj => s.inj i j _ _ _ (cas i _ hi).2 (cas j _ hj).2, fun i b1 c1 hi => ?_, fun i b1 c1 obi hi hobi => ?_, fun i b1 c1 hi hX => s.nx i b1 c1 (cas i _ hi).2 hX, fun b1 hX => (by show b1 < w'.heap.size; rw [hsz]; exact s.xlt b1 hX)⟩, x⟩
  · have := s.lt i _ _ (cas i _ hi).2
    exact ⟨by simpa using this.1, by show b1 < w'.heap.size; rw [hsz]; exact this.2⟩
  · obtain ⟨h1, h2⟩ := cas i _ hi
    exact OR.ext x (hw b1 fun e' => by subst e'; exact h1 (s.inj i o _ _ _ h2 hι)) obi (s.obj i b1 c1 obi h2 ((hold i h1).symm.trans hobi))
end
/-- Rows of bytes. -/
def s_bytesOk (rs : List (List AV)) : Bool := rs.all fun r => match r with | [AV.int .u8 m] => decide (0 ≤ m) && decide (m ≤ 255) | _ => false
/-- strings.Builder: that it was not copied. -/
def bldCheckA (T0 : Nat) (args : List AV) (h : List AObj) : Option (AV × List AObj) := match args with
  | [.ptr o 0] => match h[o]? with
    | some (.tb T [.nilp, b]) => match Nat.beq T T0 with
      | true => some (.tup [], h.set o (.tb T [.ptr o 0, b]))
      | false => none
    | some (.tb T [.ptr q 0, b]) => match Nat.beq T T0, Nat.beq q o with
      | true, true => some (.tup [], h)
      | _, _ => none
    | _ => none
  | _ => none
/-- strings.Builder: what was written. -/
def bldStringA (T0 U : Nat) (args : List AV) (h : List AObj) : Option (AV × List AObj) := match args with
  | [.ptr o 0] => match h[o]? with
    | some (.tb T [p, .nils]) => match Nat.beq T T0 with
      | true => some (.str ⟨#[]⟩, h)
      | false => none
    | some (.tb T [p, .sl q 0 n]) => match Nat.beq T T0 with
      | true => match h[q]? with
        | some (.arr md e [.int .u8] rs) => if Nat.beq md 2 = true ∧ e = U ∧ n = rs.length ∧ 0 < n ∧ s_bytesOk rs = true then some (.str ⟨(rowsBytes rs).toArray⟩, h.set q .dead) else none
        | _ => none
      | false => none
    | _ => none
  | _ => none
/-- What a builder's calls must do. -/
structure BldOk (P : Program) (T0 U gc gs : Nat) : Prop where
  used : ∀ (b : Nat) (w : World), w.cell? ⟨b, 0, none⟩ = some (.pointer (some ⟨b, 0, none⟩)) → Calls P gc #[.pointer (some ⟨b, 0, none⟩)] w fun e w' => e = .returned (.tuple #[]) ∧ w' = w
  fresh : ∀ (b : Nat) (w : World), w.cell? ⟨b, 0, none⟩ = some (.pointer none) → w.shape? b = some (T0, 2) → w.frozen? ⟨b, 0, none⟩ = false →
    Calls P gc #[.pointer (some ⟨b, 0, none⟩)] w fun e w' => e = .returned (.tuple #[]) ∧ w' = w.setCell ⟨b, 0, none⟩ (.pointer (some ⟨b, 0, none⟩))
  fnil : ∀ (b : Nat) (w : World) (p : Value), w.heap[b]? = some (.cells #[p, .slice none 0 0] T0 (0, 0)) → Calls P gs #[.pointer (some ⟨b, 0, none⟩)] w fun e w' => e = .returned (.string ⟨#[]⟩) ∧ w' = w.drew
  fsome : ∀ (b g cap : Nat) (p : Value) (cur : Array Value) (l : List UInt8) (w : World), w.heap[b]? = some (.cells #[p, .slice (some ⟨g, 0, none⟩) l.length cap] T0 (0, 0)) → w.heap[g]? = some (.cells cur U (0, 0)) → l ≠ [] → l.length ≤ cap → cap ≤ maxLen → cur.size = cap →
    (∀ (j : Nat) (x : UInt8), l[j]? = some x → cur[j]? = some (Value.int .u8 x.toNat)) → Calls P gs #[.pointer (some ⟨b, 0, none⟩)] w fun e w' => e = .returned (.string ⟨l.toArray⟩) ∧ w' = w.drew.freeze ⟨g, 0, none⟩ l.length
theorem vl2 {E : En} {x y : AV} {a : Array Value} (h : VL E [x, y] a.toList) : ∃ u v, a = #[u, v] ∧ VR E x u ∧ VR E y v := by
  have hl := h.len
  match ha : a.toList, h with
  | [u, v], h => exact ⟨u, v, by apply Array.toList_inj.1; simpa using ha, h.1, h.2.1⟩
  | [], h => simp [VL] at h
  | [_], h => simp [VL] at h
  | _ :: _ :: _ :: _, h => simp [VL] at h
theorem vl1 {E : En} {x : AV} {a : Array Value} (h : VL E [x] a.toList) : ∃ u, a = #[u] ∧ VR E x u := by
  match ha : a.toList, h with
  | [u], h => exact ⟨u, by apply Array.toList_inj.1; simpa using ha, h.1⟩
  | [], h => simp [VL] at h
  | _ :: _ :: _, h => simp [VL] at h
theorem bldCheck_ok {P : Program} {T0 U gc gs : Nat} (B : BldOk P T0 U gc gs) : SoundF P fun g args h => if g = gc then bldCheckA T0 args h else none := by
  intro g args h v h' hF E hh s cargs hargs
  subst hh
  simp only at hF
  split at hF
  · rename_i hg; subst hg
    unfold bldCheckA at hF
    split at hF
    · rename_i o
      obtain ⟨cv, rfl, hcv⟩ := vl1 hargs
      split at hF
      · rename_i T b ho
        split at hF
        · rename_i hT
          have hT := Nat.eq_of_beq_eq_true hT
          subst hT
          cases hF
          simp only [VR, ho] at hcv
          obtain ⟨bk, c, hι, rfl⟩ := hcv
          obtain ⟨a, hb, hcs, h1⟩ := s.obj o bk c _ hι ho
          obtain ⟨pv, bv, rfl, hp, hbv⟩ := vl2 hcs
          simp only [VR] at hp
          subst hp
          refine (B.fresh bk E.w (by rw [cell_of_cells hb]; rfl) (by simp [World.shape?, hb]) (by simp [World.frozen?, hb])).mono ?_
          rintro e w' ⟨rfl, rfl⟩
          have hsz : (E.w.setCell ⟨bk, 0, none⟩ (.pointer (some ⟨bk, 0, none⟩))).heap.size = E.w.heap.size := by simp
          have hnew : (E.w.setCell ⟨bk, 0, none⟩ (.pointer (some ⟨bk, 0, none⟩))).heap[bk]? = some (.cells #[.pointer (some ⟨bk, 0, none⟩), bv] T (0, 0)) := by
            simp [World.setCell, Array.getElem?_modify, hb]
          have hlt : o < E.h.length := (List.getElem?_eq_some_iff.1 ho).1
          have hm := mod_ok (w' := E.w.setCell ⟨bk, 0, none⟩ (.pointer (some ⟨bk, 0, none⟩))) (ob' := .tb T [.ptr o 0, b]) s hι ho rfl rfl (fun _ _ _ _ _ _ _ _ e => by cases e) hsz
            (fun b' hb' => by simp only [World.setCell, Array.getElem?_modify]; rw [if_neg (fun e => hb' e.symm)])
            (fun x => ⟨_, hnew, ⟨by simp only [VR]; rw [List.getElem?_set_self hlt]; exact ⟨bk, c, hι, rfl⟩, VR.ext x _ _ hbv, trivial⟩, fun z hz => by
              simp only [List.mem_cons, List.not_mem_nil, or_false] at hz
              rcases hz with rfl | rfl
              · rfl
              · exact h1 _ (by simp)⟩)
          exact ⟨_, E.ι, rfl, hm.1, hm.2, ⟨rfl, rfl, rfl, by simp⟩, by simp only [VR]; exact ⟨#[], rfl, by simp [VL]⟩⟩
        · cases hF
      · rename_i T q b ho
        split at hF
        · rename_i hT hq
          have hT := Nat.eq_of_beq_eq_true hT
          have hq := Nat.eq_of_beq_eq_true hq
          subst hT; subst hq
          cases hF
          simp only [VR, ho] at hcv
          obtain ⟨bk, c, hι, rfl⟩ := hcv
          obtain ⟨a, hb, hcs, h1⟩ := s.obj q bk c _ hι ho
          obtain ⟨pv, bv, rfl, hp, hbv⟩ := vl2 hcs
          simp only [VR, ho] at hp
          obtain ⟨b2, c2, hι2, rfl⟩ := hp
          rw [hι] at hι2
          cases hι2
          refine (B.used bk E.w (by rw [cell_of_cells hb]; rfl)).mono ?_
          rintro e w' ⟨rfl, rfl⟩
          exact ⟨_, E.ι, rfl, s, Ext.refl E, Wd.refl _, by simp only [VR]; exact ⟨#[], rfl, by simp [VL]⟩⟩
        · cases hF
      · cases hF
    · cases hF
  · cases hF
theorem freeze_facts (w : World) (g n : Nat) : (w.freeze ⟨g, 0, none⟩ n).heap.size = w.heap.size ∧ (∀ b', b' ≠ g → (w.freeze ⟨g, 0, none⟩ n).heap[b']? = w.heap[b']?) ∧ (w.freeze ⟨g, 0, none⟩ n).os = w.os ∧ (w.freeze ⟨g, 0, none⟩ n).tape = w.tape ∧ (w.freeze ⟨g, 0, none⟩ n).output = w.output := by
  unfold World.freeze
  split
  · exact ⟨rfl, fun _ _ => rfl, rfl, rfl, rfl⟩
  · refine ⟨by simp, fun b' hb' => ?_, rfl, rfl, rfl⟩
    show (w.heap.modify g _)[b']? = _
    rw [Array.getElem?_modify, if_neg (fun e => hb' e.symm)]
theorem s_bytesOk_get {rs : List (List AV)} (h : s_bytesOk rs = true) {j : Nat} {r : List AV} (hj : rs[j]? = some r) : ∃ m : Int, r = [.int .u8 m] ∧ 0 ≤ m ∧ m ≤ 255 := by
  unfold s_bytesOk at h
  rw [List.all_eq_true] at h
  have := h r (List.mem_of_getElem? hj)
  split at this
  · rename_i m
    simp only [Bool.and_eq_true, decide_eq_true_eq] at this
    exact ⟨m, rfl, this⟩
  · cases this
theorem bldString_ok {P : Program} {T0 U gc gs : Nat} (B : BldOk P T0 U gc gs) : SoundF P fun g args h => if g = gs then bldStringA T0 U args h else none := by
  intro g args h v h' hF E hh s cargs hargs
  subst hh
  simp only at hF
  split at hF
  · rename_i hg; subst hg
    unfold bldStringA at hF
    split at hF
    · rename_i o
      obtain ⟨cv, rfl, hcv⟩ := vl1 hargs
      split at hF
      · rename_i T p ho
        split at hF
        · rename_i hT
          have hT := Nat.eq_of_beq_eq_true hT
          subst hT
          cases hF
          simp only [VR, ho] at hcv
          obtain ⟨bk, c, hι, rfl⟩ := hcv
          obtain ⟨a, hb, hcs, h1⟩ := s.obj o bk c _ hι ho
          obtain ⟨pv, bv, rfl, hp, hbv⟩ := vl2 hcs
          simp only [VR] at hbv
          subst hbv
          refine (B.fnil bk E.w pv hb).mono ?_
          rintro e w' ⟨rfl, rfl⟩
          have hk := heap_ok (w' := E.w.drew) s rfl
          exact ⟨_, E.ι, rfl, hk.1, hk.2, ⟨rfl, rfl, rfl, Nat.le_refl _⟩, by simp only [VR]⟩
        · cases hF
      · rename_i T p q n ho
        split at hF
        · rename_i hT
          have hT := Nat.eq_of_beq_eq_true hT
          subst hT
          split at hF
          · rename_i md e rs hq
            split at hF
            · rename_i hc
              obtain ⟨hmd, rfl, rfl, hn, hby⟩ := hc
              have hmd := Nat.eq_of_beq_eq_true hmd
              subst hmd
              cases hF
              simp only [VR, ho] at hcv
              obtain ⟨bk, c, hι, rfl⟩ := hcv
              obtain ⟨a, hb, hcs, h1⟩ := s.obj o bk c _ hι ho
              obtain ⟨pv, bv, rfl, hp, hbv⟩ := vl2 hcs
              simp only [VR, hq] at hbv
              obtain ⟨g, c2, cap, hι2, rfl, hlc, hoc, _⟩ := hbv
              obtain ⟨h0, cur, lo, hi, hg, hcs2, hlc2, hcm, hrow, hRR, hfr, hno⟩ := s.obj q g c2 _ hι2 hq
              obtain ⟨rfl, rfl⟩ := hfr rfl
              have hcap : cap = c2 := by omega
              subst hcap
              have hlen : (rowsBytes rs).length = rs.length := by simp [rowsBytes]
              have hcall := B.fsome bk g cap pv cur (rowsBytes rs) E.w (by rw [hlen]; simpa using hb) hg (by intro e0; rw [e0] at hlen; simp at hlen; omega) (by rw [hlen]; exact hlc) hcm (by simpa using hcs2) (fun j x hx => by
                unfold rowsBytes at hx
                rw [List.getElem?_map] at hx
                cases hr : rs[j]? with
                | none => simp [hr] at hx
                | some r =>
                  obtain ⟨m, rfl, hm1, hm2⟩ := s_bytesOk_get hby hr
                  simp [hr, AV.toI] at hx
                  have hc := hRR.get j _ hr
                  simp only [CR, VR] at hc
                  obtain ⟨⟨cv, k1, _, rfl⟩, _⟩ := hc
                  rw [cell_of_cells hg] at k1
                  simp only [List.length_singleton, Nat.mul_one, Nat.zero_add] at k1
                  rw [k1, ← hx]
                  have : (UInt8.ofNat m.toNat).toNat = m.toNat := by
                    rw [UInt8.toNat_ofNat']; omega
                  rw [this, Int.toNat_of_nonneg hm1])
              refine hcall.mono ?_
              rintro e w' ⟨rfl, rfl⟩
              have hf := freeze_facts E.w.drew g (rowsBytes rs).length
              have hk := killw_ok (w' := E.w.drew.freeze ⟨g, 0, none⟩ (rowsBytes rs).length) s hι2 hq (by decide) hf.1 (fun b' hb' => hf.2.1 b' hb')
              exact ⟨_, _, rfl, hk.1, hk.2, ⟨hf.2.2.1, hf.2.2.2.1, hf.2.2.2.2, by rw [hf.1]; exact Nat.le_refl _⟩, by simp only [VR]⟩
            · cases hF
          · cases hF
        · cases hF
      · cases hF
    · cases hF
  · cases hF
end Go.Proofs.YtiemjcchlfbglaaGreatE
