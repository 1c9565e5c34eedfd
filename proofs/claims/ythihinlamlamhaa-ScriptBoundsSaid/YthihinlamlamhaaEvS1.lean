/- What waits for what in a region. -/
import Derived.Test.YthihinlamlamhaaEvR
namespace Go.Proofs.YthihinlamlamhaaE
open Go

def befF (acc : Array Nat) (o : Oper) : Nat := o.after.foldl (fun s e => if Region.binds .any e then s ||| 2 ^ e.on ||| acc.getD e.on 0 else s) 0
theorem before_eq (ops : Array Oper) : Region.before ops = ops.foldl (fun acc o => acc.push (befF acc o)) #[] := rfl

theorem fold_bit (acc : Array Nat) (j : Nat) : ∀ (l : List Edge) (s : Nat), (l.foldl (fun s e => if Region.binds .any e then s ||| 2 ^ e.on ||| acc.getD e.on 0 else s) s).testBit j = true ↔
    s.testBit j = true ∨ ∃ e ∈ l, Region.binds .any e = true ∧ (e.on = j ∨ (acc.getD e.on 0).testBit j = true)
  | [], s => by simp
  | e :: l, s => by
    rw [List.foldl_cons, fold_bit acc j l]
    by_cases hb : Region.binds .any e = true
    · rw [if_pos hb]
      simp only [Nat.testBit_or, Nat.testBit_two_pow, Bool.or_eq_true, decide_eq_true_eq, List.mem_cons, exists_eq_or_imp, hb, true_and]
      constructor
      · rintro (((h | h) | h) | h)
        · exact .inl h
        · exact .inr (.inl (.inl h))
        · exact .inr (.inl (.inr h))
        · exact .inr (.inr h)
      · rintro (h | (h | h) | h)
        · exact .inl (.inl (.inl h))
        · exact .inl (.inl (.inr h))
        · exact .inl (.inr h)
        · exact .inr h
    · rw [if_neg hb]
      simp only [List.mem_cons, exists_eq_or_imp, hb, Bool.false_eq_true, false_and, false_or]

theorem bef_list : ∀ (l : List Oper) (acc : Array Nat), ∃ r : Array Nat, l.foldl (fun acc o => acc.push (befF acc o)) acc = acc ++ r ∧ r.size = l.length ∧
    ∀ k o, l[k]? = some o → (acc ++ r).getD (acc.size + k) 0 = befF ((acc ++ r).extract 0 (acc.size + k)) o
  | [], acc => ⟨#[], by simp, rfl, by simp⟩
  | o :: l, acc => by
    obtain ⟨r, h1, h2, h3⟩ := bef_list l (acc.push (befF acc o))
    refine ⟨#[befF acc o] ++ r, ?_, by simp [h2]; omega, fun k o' hk => ?_⟩
    · rw [List.foldl_cons, h1]
      apply Array.toList_inj.1
      simp
    · have he : acc ++ (#[befF acc o] ++ r) = acc.push (befF acc o) ++ r := by
        apply Array.toList_inj.1
        simp
      rw [he]
      cases k with
      | zero =>
        simp at hk; subst hk
        have e1 : (acc.push (befF acc o) ++ r).extract 0 (acc.size + 0) = acc := by
          apply Array.toList_inj.1
          simp
        rw [e1, Array.getD_eq_getD_getElem?, Array.getElem?_append_left (by simp)]
        simp
      | succ k =>
        simp at hk
        have := h3 k o' hk
        rw [Array.size_push] at this
        rw [show acc.size + (k + 1) = acc.size + 1 + k from by omega]
        exact this

theorem before_bit {ops : Array Oper} {i : Nat} {o : Oper} (ho : ops[i]? = some o) (j : Nat) :
    ((Region.before ops).getD i 0).testBit j = true ↔ ∃ e ∈ o.after, Region.binds .any e = true ∧ (e.on = j ∨ (e.on < i ∧ ((Region.before ops).getD e.on 0).testBit j = true)) := by
  obtain ⟨r, h1, h2, h3⟩ := bef_list ops.toList #[]
  have hb : Region.before ops = r := by
    rw [before_eq, ← Array.foldl_toList, h1]; simp
  have := h3 i o (by simpa using ho)
  simp only [Array.empty_append, Array.size_empty, Nat.zero_add] at this
  rw [hb, this]
  unfold befF
  rw [← Array.foldl_toList, fold_bit]
  have hx : ∀ n, (r.extract 0 i).getD n 0 = if n < i then r.getD n 0 else 0 := fun n => by
    rw [Array.getD_eq_getD_getElem?, Array.getD_eq_getD_getElem?, Array.getElem?_extract]
    by_cases hn : n < i
    · rw [if_pos hn]
      by_cases hr : n < r.size
      · rw [if_pos (by omega)]; simp
      · rw [if_neg (by omega), Array.getElem?_eq_none (by omega)]
    · rw [if_neg hn, if_neg (by omega)]; rfl
  simp only [Nat.zero_testBit, Bool.false_eq_true, false_or, hx, Array.mem_toList_iff]
  constructor
  · rintro ⟨e, he, hbn, h⟩
    refine ⟨e, he, hbn, ?_⟩
    rcases h with h | h
    · exact .inl h
    · split at h
      · rename_i hlt; exact .inr ⟨hlt, h⟩
      · simp at h
  · rintro ⟨e, he, hbn, h⟩
    refine ⟨e, he, hbn, ?_⟩
    rcases h with h | ⟨hlt, h⟩
    · exact .inl h
    · rw [if_pos hlt]; exact .inr h

/-- What has come up is closed. -/
theorem closed_bit {ops : Array Oper} {D : Nat → Prop} (hD : ∀ i o, D i → ops[i]? = some o → ∀ e ∈ o.after, Region.binds .any e = true → D e.on) (hs : ∀ i, D i → i < ops.size) :
    ∀ (i j : Nat), D i → ((Region.before ops).getD i 0).testBit j = true → D j := by
  intro i
  induction i using Nat.strongRecOn with
  | _ i ih =>
    intro j hi hb
    have hlt0 := hs i hi
    have ho : ops[i]? = some (ops[i]'hlt0) := Array.getElem?_eq_getElem hlt0
    obtain ⟨e, he, hbn, h⟩ := (before_bit ho j).1 hb
    have he2 := hD i _ hi ho e he hbn
    rcases h with rfl | ⟨hlt, h⟩
    · exact he2
    · exact ih e.on hlt j he2 h

structure Canon (ops : Array Oper) (c : List Nat) : Prop where
  lt : ∀ (k i : Nat), c[k]? = some i → i < ops.size
  bf : ∀ (k i j : Nat), c[k]? = some i → ((Region.before ops).getD i 0).testBit j = true → ∃ k', k' < k ∧ c[k']? = some j
  wr : ∀ (k i p j : Nat), c[k]? = some i → p < k → c[p]? = some j → isWr ops j = true → ∃ p' j', p ≤ p' ∧ p' < k ∧ c[p']? = some j' ∧ isWr ops j' = true ∧ ((Region.before ops).getD i 0).testBit j' = true
  inj : ∀ (k k' i : Nat), c[k]? = some i → c[k']? = some i → k = k'

theorem and_sub {a b : Nat} (h : (a &&& b == a) = true) {j : Nat} (hj : a.testBit j = true) : b.testBit j = true := by
  have h : a &&& b = a := by simpa using h
  have := congrArg (fun n => n.testBit j) h
  simp only [Nat.testBit_and, hj, Bool.true_and] at this
  exact this

theorem canon_facts {ops : Array Oper} : ∀ (l : List Nat) (pre : List Nat) (done : Nat) (wr : Option Nat), canonOk ops (Region.before ops) l done wr = true → Canon ops pre → (∀ j, done.testBit j = true ↔ j ∈ pre) →
    (match wr with | none => ∀ j ∈ pre, isWr ops j = false | some j => ∃ p, pre[p]? = some j ∧ isWr ops j = true ∧ ∀ (p' j' : Nat), p < p' → pre[p']? = some j' → isWr ops j' = false) → Canon ops (pre ++ l) ∧ ∀ i, i < ops.size → i ∈ pre ++ l
  | [], pre, done, wr, h, hc, hd, _ => by
    rw [List.append_nil]
    refine ⟨hc, fun i hi => (hd i).1 ?_⟩
    simp only [canonOk, List.all_eq_true, List.mem_range] at h
    exact h i hi
  | i :: l, pre, done, wr, h, hc, hd, hw => by
    simp only [canonOk, Bool.and_eq_true, decide_eq_true_eq, Bool.not_eq_true'] at h
    obtain ⟨⟨⟨⟨h1, h2⟩, h3⟩, h4⟩, h5⟩ := h
    have hni : i ∉ pre := fun hm => by have := (hd i).2 hm; rw [h2] at this; cases this
    have hget : ∀ (k x : Nat), (pre ++ [i])[k]? = some x → (k < pre.length ∧ pre[k]? = some x) ∨ (k = pre.length ∧ x = i) := fun k x hk => by
      rw [List.getElem?_append] at hk
      split at hk
      · rename_i hlt; exact .inl ⟨hlt, hk⟩
      · rename_i hge
        right
        by_cases hk0 : k - pre.length = 0
        · rw [hk0] at hk; simp at hk; exact ⟨by omega, hk.symm⟩
        · rw [List.getElem?_eq_none (by simp; omega)] at hk; cases hk
    have hold : ∀ (k x : Nat), pre[k]? = some x → (pre ++ [i])[k]? = some x := fun k x hk => by
      rw [List.getElem?_append, if_pos (List.getElem?_eq_some_iff.1 hk).1]; exact hk
    have hc' : Canon ops (pre ++ [i]) := by
      refine ⟨fun k x hk => ?_, fun k x j hk hb => ?_, fun k x p j hk hp hj hwj => ?_, fun k k' x hk hk' => ?_⟩
      · rcases hget k x hk with ⟨_, h⟩ | ⟨_, rfl⟩
        · exact hc.lt k x h
        · exact h1
      · rcases hget k x hk with ⟨_, h⟩ | ⟨rfl, rfl⟩
        · obtain ⟨k', hk', h6⟩ := hc.bf k x j h hb
          exact ⟨k', hk', hold _ _ h6⟩
        · obtain ⟨k', h6⟩ := List.getElem?_of_mem ((hd j).1 (and_sub h3 hb))
          exact ⟨k', (List.getElem?_eq_some_iff.1 h6).1, hold _ _ h6⟩
      · rcases hget k x hk with ⟨hkl, h⟩ | ⟨rfl, rfl⟩
        · rcases hget p j hj with ⟨_, hj'⟩ | ⟨he, _⟩
          · obtain ⟨p', j', e1, e2, e3, e4, e5⟩ := hc.wr k x p j h hp hj' hwj
            exact ⟨p', j', e1, e2, hold _ _ e3, e4, e5⟩
          · omega
        · rcases hget p j hj with ⟨_, hj'⟩ | ⟨he, _⟩
          · cases wr with
            | none =>
              have := hw j (List.mem_of_getElem? hj')
              rw [hwj] at this; cases this
            | some j0 =>
              obtain ⟨p0, e1, e2, e3⟩ := hw
              have hple : p ≤ p0 := by
                rcases Nat.lt_or_ge p0 p with hlt | hge
                · have := e3 p j hlt hj'
                  rw [hwj] at this; cases this
                · exact hge
              exact ⟨p0, j0, hple, (List.getElem?_eq_some_iff.1 e1).1, hold _ _ e1, e2, h4⟩
          · omega
      · rcases hget k x hk with ⟨h6, h7⟩ | ⟨h6, h7⟩ <;> rcases hget k' x hk' with ⟨g6, g7⟩ | ⟨g6, g7⟩
        · exact hc.inj k k' x h7 g7
        · subst g7; exact absurd (List.mem_of_getElem? h7) hni
        · subst h7; exact absurd (List.mem_of_getElem? g7) hni
        · rw [h6, g6]
    have := canon_facts l (pre ++ [i]) (done ||| 2 ^ i) (if isWr ops i then some i else wr) h5 hc' (fun j => by
      simp only [Nat.testBit_or, Nat.testBit_two_pow, Bool.or_eq_true, decide_eq_true_eq, List.mem_append, List.mem_singleton]
      rw [hd j]
      exact or_congr Iff.rfl eq_comm) (by
      by_cases hwi : isWr ops i = true
      · rw [if_pos hwi]
        refine ⟨pre.length, by simp, hwi, fun p' j' hp hj => ?_⟩
        rcases hget p' j' hj with ⟨h6, _⟩ | ⟨h6, _⟩ <;> omega
      · rw [if_neg hwi]
        cases wr with
        | none =>
          intro j hj
          rcases List.mem_append.1 hj with hj | hj
          · exact hw j hj
          · simp at hj; subst hj; simpa using hwi
        | some j0 =>
          obtain ⟨p0, e1, e2, e3⟩ := hw
          refine ⟨p0, hold _ _ e1, e2, fun p' j' hp hj => ?_⟩
          rcases hget p' j' hj with ⟨_, h7⟩ | ⟨_, rfl⟩
          · exact e3 p' j' hp h7
          · simpa using hwi)
    rw [List.append_assoc] at this
    exact this

theorem canon_all {ops : Array Oper} {c : List Nat} (h : canonOk ops (Region.before ops) c 0 none = true) : Canon ops c ∧ ∀ i, i < ops.size → i ∈ c := by
  have := canon_facts c [] 0 none h ⟨by simp, by simp, by simp, by simp⟩ (by simp) (by simp)
  simpa using this

/-- The canonical run, state by state. -/
structure Trace (C : Ctx) (ops : Array Oper) (c : List Nat) (St : Nat → S) : Prop where
  step : ∀ (k i : Nat), c[k]? = some i → ∃ o b, ops[i]? = some o ∧ wantedA ops (St k).t o = some b ∧ stepA C ops i (St k) = some (St (k + 1))
  ok : ∀ (k i : Nat) (o : Oper), c[k]? = some i → ops[i]? = some o → wantedA ops (St k).t o = some true → isWriter o = true → ∀ (k' i' : Nat) (o' : Oper) (b : Nat), k' < k → c[k']? = some i' → ops[i']? = some o' →
    wantedA ops (St k').t o' = some true → isWriter o' = false → readObj (ev (St k').t) o' = some b → ((Region.before ops).getD i 0).testBit i' = true ∨ b ∉ touched C (ev (St k).t) (St k).h o

theorem trace_of {C : Ctx} {ops : Array Oper} : ∀ (c : List Nat) (pend : List (Nat × Nat)) (st st' : S), runD C ops (Region.before ops) c pend st = some st' →
    ∃ St : Nat → S, St 0 = st ∧ St c.length = st' ∧ Trace C ops c St ∧ ∀ (k i : Nat) (o : Oper), c[k]? = some i → ops[i]? = some o → wantedA ops (St k).t o = some true → isWriter o = true → ∀ p ∈ pend, ((Region.before ops).getD i 0).testBit p.1 = true ∨ p.2 ∉ touched C (ev (St k).t) (St k).h o
  | [], pend, st, st', h => by
    simp [runD] at h; subst h
    exact ⟨fun _ => st, rfl, rfl, ⟨by simp, by simp⟩, by simp⟩
  | i :: c, pend, st, st', h => by
    simp only [runD] at h
    split at h
    · cases h
    · rename_i o ho
      split at h
      · rename_i b hb
        -- all ways: one step, then the rest with some pendings
        have key : ∀ (pend' : List (Nat × Nat)) (st1 : S), stepA C ops i st = some st1 → runD C ops (Region.before ops) c pend' st1 = some st' → (∀ p ∈ pend, p ∈ pend') →
            (b = true → isWriter o = true → ∀ p ∈ pend, ((Region.before ops).getD i 0).testBit p.1 = true ∨ p.2 ∉ touched C (ev st.t) st.h o) → (b = true → isWriter o = false → ∀ q, readObj (ev st.t) o = some q → (i, q) ∈ pend') →
            ∃ St : Nat → S, St 0 = st ∧ St (i :: c).length = st' ∧ Trace C ops (i :: c) St ∧ ∀ (k i' : Nat) (o : Oper), (i :: c)[k]? = some i' → ops[i']? = some o → wantedA ops (St k).t o = some true → isWriter o = true → ∀ p ∈ pend, ((Region.before ops).getD i' 0).testBit p.1 = true ∨ p.2 ∉ touched C (ev (St k).t) (St k).h o := by
          intro pend' st1 hs hr hsub hw hl
          obtain ⟨St, e1, e2, tr, e3⟩ := trace_of c pend' st1 st' hr
          refine ⟨fun k => match k with | 0 => st | k + 1 => St k, rfl, e2, ⟨fun k x hk => ?_, fun k x o1 hk ho1 hw1 hwr1 k' i' o' q hk' hi' ho' hw' hwr' hq => ?_⟩, fun k x o1 hk ho1 hw1 hwr1 p hp => ?_⟩
          · cases k with
            | zero => simp at hk; subst hk; exact ⟨o, b, ho, hb, by rw [hs]; exact congrArg some e1.symm⟩
            | succ k => simp at hk; exact tr.step k x hk
          · cases k with
            | zero => omega
            | succ k =>
              simp at hk
              cases k' with
              | zero =>
                simp at hi'; subst hi'
                rw [ho] at ho'; cases ho'
                have hbt : b = true := by rw [hb] at hw'; exact Option.some.inj hw'
                exact e3 k x o1 hk ho1 hw1 hwr1 (i, q) (hl hbt hwr' q hq)
              | succ k' =>
                simp at hi'
                exact tr.ok k x o1 hk ho1 hw1 hwr1 k' i' o' q (by omega) hi' ho' hw' hwr' hq
          · cases k with
            | zero =>
              simp at hk; subst hk
              rw [ho] at ho1; cases ho1
              have hbt : b = true := by rw [hb] at hw1; exact Option.some.inj hw1
              exact hw hbt hwr1 p hp
            | succ k =>
              simp at hk
              exact e3 k x o1 hk ho1 hw1 hwr1 p (hsub p hp)
        split at h
        · rename_i hbt
          split at h
          · rename_i hwr
            split at h
            · rename_i hp
              rw [Option.bind_eq_some_iff] at h
              obtain ⟨st1, hs, hr⟩ := h
              refine key pend st1 hs hr (fun p hp => hp) (fun _ _ p hpm => ?_) (fun _ hf => by rw [hwr] at hf; cases hf)
              rw [List.all_eq_true] at hp
              have := hp p hpm
              rw [Bool.or_eq_true] at this
              rcases this with h | h
              · exact .inl h
              · exact .inr (by simpa using h)
            · cases h
          · rename_i hwr
            rw [Option.bind_eq_some_iff] at h
            obtain ⟨st1, hs, hr⟩ := h
            refine key _ st1 hs hr (fun p hp => List.mem_append_right _ hp) (fun _ hf => absurd hf hwr) (fun _ _ q hq => ?_)
            rw [hq]; simp
        · rename_i hbf
          rw [Option.bind_eq_some_iff] at h
          obtain ⟨st1, hs, hr⟩ := h
          exact key pend st1 hs hr (fun p hp => hp) (fun hf => absurd hf hbf) (fun hf => absurd hf hbf)
      · cases h
end Go.Proofs.YthihinlamlamhaaE
