/- The temporaries of a region whose operations come up in any order. -/
import Derived.Test.YthihinlamlamhaaEvS1
namespace Go.Proofs.YthihinlamlamhaaE
open Go

def dstOf (ops : Array Oper) (i : Nat) : Option Tmp := (ops[i]?).bind (·.dst)
def slotV (ops : Array Oper) (c : List Nat) (St : Nat → S) (d : Nat → Bool) : Nat → Nat → AV
  | 0, t => (St 0).t.getD t .undef
  | k + 1, t => match c[k]? with
    | some i => if d i = true ∧ dstOf ops i = some t then (St (k + 1)).t.getD t .undef else slotV ops c St d k t
    | none => slotV ops c St d k t

theorem put_getD {st : S} {dst : Option Tmp} {v : AV} {h : List AObj} {t : Nat} (hd : dst ≠ some t) : (st.put dst v h).t.getD t .undef = st.t.getD t .undef := by
  cases dst with
  | none => rfl
  | some d =>
    have hne : d ≠ t := fun e => hd (by rw [e])
    show (st.t.set d v).getD t .undef = _
    simp [List.getD_eq_getElem?_getD, hne]
theorem put_len {st : S} {dst : Option Tmp} {v : AV} {h : List AObj} : (st.put dst v h).t.length = st.t.length := by
  cases dst with
  | none => rfl
  | some d => show (st.t.set d v).length = _; simp
theorem step_slot {C : Ctx} {ops : Array Oper} {i : Nat} {st st1 : S} (h : stepA C ops i st = some st1) : st1.t.length = st.t.length ∧ ∀ t, dstOf ops i ≠ some t → st1.t.getD t .undef = st.t.getD t .undef := by
  unfold stepA at h
  unfold dstOf
  split at h
  · cases h; exact ⟨rfl, fun _ _ => rfl⟩
  · rename_i o ho
    rw [ho]
    split at h
    · split at h
      · rw [Option.map_eq_some_iff] at h
        obtain ⟨p, _, rfl⟩ := h
        exact ⟨put_len, fun t ht => put_getD ht⟩
      · cases h
        exact ⟨put_len, fun t ht => put_getD ht⟩
    · cases h

section
variable {C : Ctx} {ops : Array Oper} {c : List Nat} {St : Nat → S}

theorem st_len (tr : Trace C ops c St) : ∀ k, k ≤ c.length → (St k).t.length = (St 0).t.length
  | 0, _ => rfl
  | k + 1, hk => by
    have hc : c[k]? = some (c[k]'(by omega)) := List.getElem?_eq_getElem (by omega)
    obtain ⟨o, b, _, _, hs⟩ := tr.step k _ hc
    rw [(step_slot hs).1, st_len tr k (by omega)]
theorem slot_true (tr : Trace C ops c St) (t : Nat) : ∀ k, k ≤ c.length → slotV ops c St (fun _ => true) k t = (St k).t.getD t .undef
  | 0, _ => rfl
  | k + 1, hk => by
    have hc : c[k]? = some (c[k]'(by omega)) := List.getElem?_eq_getElem (by omega)
    obtain ⟨o, b, _, _, hs⟩ := tr.step k _ hc
    simp only [slotV, hc]
    by_cases hd : dstOf ops c[k] = some t
    · rw [if_pos ⟨trivial, hd⟩]
    · rw [if_neg (fun h => hd h.2), slot_true tr t k (by omega), (step_slot hs).2 t hd]
theorem slot_none {d : Nat → Bool} {t k : Nat} : ∀ K, k ≤ K → (∀ (p i : Nat), k ≤ p → p < K → c[p]? = some i → dstOf ops i = some t → d i = false) → slotV ops c St d K t = slotV ops c St d k t
  | 0, hk, _ => by
    have h0 : k = 0 := by omega
    rw [h0]
  | K + 1, hk, h => by
    by_cases he : k = K + 1
    · subst he; rfl
    · rw [← slot_none K (by omega) fun p i h1 h2 => h p i h1 (by omega)]
      simp only [slotV]
      split
      · rename_i i hi
        rw [if_neg fun hh => by have := h K i (by omega) (by omega) hi hh.2; rw [hh.1] at this; cases this]
      · rfl
theorem slot_congr {d d' : Nat → Bool} {t : Nat} : ∀ K, (∀ (p i : Nat), p < K → c[p]? = some i → dstOf ops i = some t → d i = d' i) → slotV ops c St d K t = slotV ops c St d' K t
  | 0, _ => rfl
  | K + 1, h => by
    simp only [slotV]
    rw [slot_congr K fun p i h1 => h p i (by omega)]
    split
    · rename_i i hi
      by_cases hd : dstOf ops i = some t
      · rw [h K i (by omega) hi hd]
      · rw [if_neg fun hh => hd hh.2, if_neg fun hh => hd hh.2]
    · rfl

theorem tmp_ord (tm : tmpOk ops (Region.before ops) = true) {i j : Nat} {o : Oper} {t : Nat} (ho : ops[j]? = some o) (ht : t ∈ o.looksAt ops ∨ o.dst = some t) (hi : i < ops.size) (hij : i ≠ j) (hd : dstOf ops i = some t) :
    (i < j ∧ ((Region.before ops).getD j 0).testBit i = true) ∨ (j < i ∧ ((Region.before ops).getD i 0).testBit j = true) := by
  unfold tmpOk at tm
  rw [List.all_eq_true] at tm
  have h1 := tm j (List.mem_range.2 (Array.getElem?_eq_some_iff.1 ho).1)
  rw [ho] at h1
  simp only [List.all_eq_true] at h1
  have h2 := h1 t (by rcases ht with h | h; exact List.mem_append_left _ h; exact List.mem_append_right _ (by simp [h])) i (List.mem_range.2 hi)
  have hoi : ops[i]? = some ops[i] := Array.getElem?_eq_getElem hi
  rw [hoi] at h2
  have hd' : ops[i].dst = some t := by unfold dstOf at hd; rw [hoi] at hd; exact hd
  have hb : (i == j) = false := by simpa using hij
  rw [hb, Bool.false_or] at h2
  simp only [hd', bne_self_eq_false, Bool.false_or] at h2
  rcases Nat.lt_or_gt_of_ne hij with hlt | hgt
  · left
    rw [Nat.max_eq_right (by omega), Nat.min_eq_left (by omega)] at h2
    exact ⟨hlt, h2⟩
  · right
    rw [Nat.max_eq_left (by omega), Nat.min_eq_right (by omega)] at h2
    exact ⟨hgt, h2⟩

/-- What has come up. -/
structure Up (ops : Array Oper) (d : Nat → Bool) : Prop where
  lt : ∀ i, d i = true → i < ops.size
  cl : ∀ (i : Nat) (o : Oper), d i = true → ops[i]? = some o → ∀ e ∈ o.after, Region.binds .any e = true → d e.on = true
theorem Up.bit {d : Nat → Bool} (u : Up ops d) {i j : Nat} (hi : d i = true) (hb : ((Region.before ops).getD i 0).testBit j = true) : d j = true :=
  closed_bit (D := fun i => d i = true) u.cl u.lt i j hi hb
theorem Up.ready {d : Nat → Bool} (u : Up ops d) {i j : Nat} {o : Oper} (ho : ops[i]? = some o) (hr : ∀ e ∈ o.after, Region.binds .any e = true → d e.on = true) (hb : ((Region.before ops).getD i 0).testBit j = true) : d j = true := by
  obtain ⟨e, he, hbn, h⟩ := (before_bit ho j).1 hb
  rcases h with rfl | ⟨_, h⟩
  · exact hr e he hbn
  · exact u.bit (hr e he hbn) h

variable (cn : Canon ops c) (tm : tmpOk ops (Region.before ops) = true) (tr : Trace C ops c St) {d : Nat → Bool} (u : Up ops d) {i k : Nat} {o : Oper} (hk : c[k]? = some i) (ho : ops[i]? = some o) (hni : d i = false)
  (hr : ∀ e ∈ o.after, Region.binds .any e = true → d e.on = true)
include cn tm u hk ho hni hr

omit hr in
/-- Behind position k no writer of a slot that i touches has come up; ahead of it all have. -/
theorem ord_after {t p i' : Nat} (ht : t ∈ o.looksAt ops ∨ o.dst = some t) (hp : k ≤ p) (hc : c[p]? = some i') (hd : dstOf ops i' = some t) : d i' = false := by
  by_cases he : i' = i
  · subst he; exact hni
  · cases hx : d i' with
    | false => rfl
    | true =>
      rcases tmp_ord tm ho ht (cn.lt p i' hc) he hd with ⟨_, hb⟩ | ⟨_, hb⟩
      · obtain ⟨k', h1, h2⟩ := cn.bf k i i' hk hb
        have := cn.inj p k' i' hc h2
        omega
      · have := u.bit hx hb
        rw [hni] at this; cases this
theorem ord_before {t p i' : Nat} (ht : t ∈ o.looksAt ops ∨ o.dst = some t) (hp : p < k) (hc : c[p]? = some i') (hd : dstOf ops i' = some t) : d i' = true := by
  have he : i' ≠ i := fun e => by subst e; have := cn.inj p k i' hc hk; omega
  rcases tmp_ord tm ho ht (cn.lt p i' hc) he hd with ⟨_, hb⟩ | ⟨_, hb⟩
  · exact u.ready ho hr hb
  · obtain ⟨k', h1, h2⟩ := cn.bf p i' i hc hb
    have := cn.inj k k' i hk h2
    omega
include tr
/-- A slot that i looks at holds what it held in the canonical run. -/
theorem slot_read {t : Nat} (ht : t ∈ o.looksAt ops) : slotV ops c St d c.length t = (St k).t.getD t .undef := by
  have hkl : k < c.length := (List.getElem?_eq_some_iff.1 hk).1
  rw [slot_none (k := k) c.length (by omega) fun p i' h1 _ h3 h4 => ord_after cn tm u hk ho hni (.inl ht) h1 h3 h4]
  rw [slot_congr (d' := fun _ => true) k fun p i' h1 h3 h4 => ord_before cn tm u hk ho hni hr (.inl ht) h1 h3 h4]
  exact slot_true tr t k (by omega)
omit tr hr in
theorem slot_write {d' : Nat → Bool} (hd' : ∀ j, d' j = (d j || j == i)) (t : Nat) : slotV ops c St d' c.length t = if o.dst = some t then (St (k + 1)).t.getD t .undef else slotV ops c St d c.length t := by
  have hkl : k < c.length := (List.getElem?_eq_some_iff.1 hk).1
  have hdst : dstOf ops i = o.dst := by unfold dstOf; rw [ho]; rfl
  split
  · rename_i ht
    rw [slot_none (k := k + 1) c.length (by omega) fun p i' h1 _ h3 h4 => by
      have h5 := ord_after cn tm u hk ho hni (.inr ht) (by omega) h3 h4
      have h6 : i' ≠ i := fun e => by subst e; have := cn.inj p k i' h3 hk; omega
      rw [hd', h5]; simpa using h6]
    simp only [slotV, hk]
    rw [if_pos ⟨by rw [hd']; simp, by rw [hdst]; exact ht⟩]
  · rename_i ht
    refine slot_congr c.length fun p i' _ h3 h4 => ?_
    have h6 : i' ≠ i := fun e => by subst e; exact ht (by rw [← hdst]; exact h4)
    rw [hd']
    have : (i' == i) = false := by simpa using h6
    rw [this, Bool.or_false]
end
end Go.Proofs.YthihinlamlamhaaE
