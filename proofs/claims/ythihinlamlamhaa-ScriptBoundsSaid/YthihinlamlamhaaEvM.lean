/- Append; a new object. -/
import Derived.Test.YthihinlamlamhaaEvL
namespace Go.Proofs.YthihinlamlamhaaE
open Go

def upd (ι : Nat → Option (Nat × Nat)) (i : Nat) (p : Option (Nat × Nat)) : Nat → Option (Nat × Nat) := fun j => if j = i then p else ι j

section
variable {P : Program} {E : En}

theorem new_ok {ix : Nat} {ob : AObj} {v : AV} {cv : Value} {w' : World} (s : Sim E) (hn : NewO E v ob ix cv w') (h' : List AObj) (hh : ∀ i, i ≠ ix → h'[i]? = E.h[i]?) (hix : h'[ix]? = some ob) (hfree : E.ι ix = none)
    (hold : E.h[ix]? = none ∨ E.h[ix]? = some ob) : ∃ c, Sim ⟨upd E.ι ix (some (E.w.heap.size, c)), h', w', E.X⟩ ∧ Ext E ⟨upd E.ι ix (some (E.w.heap.size, c)), h', w', E.X⟩ ∧ Wd E.w w' ∧ VR ⟨upd E.ι ix (some (E.w.heap.size, c)), h', w', E.X⟩ v cv := by
  obtain ⟨X, c, hw, hos, htape, hout, hmade⟩ := hn
  refine ⟨c, ?_⟩
  have hheap : ∀ b, b < E.w.heap.size → w'.heap[b]? = E.w.heap[b]? := fun b hb => by rw [hw, Array.getElem?_push, if_neg (by omega)]
  have x : Ext E ⟨upd E.ι ix (some (E.w.heap.size, c)), h', w', E.X⟩ := by
    refine ⟨fun i obi hi => ?_, fun b hb => ⟨⟨by show b < w'.heap.size; rw [hw]; simp; exact Nat.lt_succ_of_lt hb.1, fun i ci obi hi hobi => ?_⟩, hheap b hb.1⟩, fun j b c' hj => ?_, by show E.w.heap.size ≤ w'.heap.size; rw [hw]; simp, rfl⟩
    · by_cases hii : i = ix
      · subst hii
        rcases hold with ho | ho
        · rw [ho] at hi; cases hi
        · rw [ho] at hi; cases hi
          exact ⟨ob, hix, .inr ⟨rfl, fun p hp => (by rw [hfree] at hp; cases hp), fun _ _ _ _ _ _ _ _ e1 e2 => by rw [e1] at e2; cases e2; rfl⟩⟩
      · exact ⟨obi, (hh i hii).trans hi, .inr ⟨rfl, fun p hp => by show upd E.ι ix _ i = some p; rw [upd, if_neg hii]; exact hp, fun _ _ _ _ _ _ _ _ e1 e2 => by rw [e1] at e2; cases e2; rfl⟩⟩
    · by_cases hii : i = ix
      · subst hii
        have : upd E.ι i (some (E.w.heap.size, c)) i = some (b, ci) := hi
        rw [upd, if_pos rfl] at this
        cases this
        exact absurd hb.1 (Nat.lt_irrefl _)
      · have h1 : upd E.ι ix (some (E.w.heap.size, c)) i = some (b, ci) := hi
        rw [upd, if_neg hii] at h1
        exact hb.2 i ci obi h1 ((hh i hii).symm.trans hobi)
    · have hj : upd E.ι ix (some (E.w.heap.size, c)) j = some (b, c') := hj
      unfold upd at hj
      split at hj
      · cases hj; exact .inl (Nat.le_refl _)
      · exact .inr ⟨j, c', hj⟩
  have hm := hmade ⟨upd E.ι ix (some (E.w.heap.size, c)), h', w', E.X⟩ (by show w'.heap[E.w.heap.size]? = _; rw [hw]; simp) (by show upd _ _ _ _ = _; rw [upd, if_pos rfl]) hix x
  refine ⟨⟨fun i j b c1 c2 hi hj => ?_, fun i b c1 hi => ?_, fun i b c1 obi hi hobi => ?_, fun i b c1 hi hX => ?_, fun b hX => ?_⟩, x, ⟨hos, htape, hout, by rw [hw]; simp⟩, hm.2⟩
  · have hi : upd E.ι ix (some (E.w.heap.size, c)) i = some (b, c1) := hi
    have hj : upd E.ι ix (some (E.w.heap.size, c)) j = some (b, c2) := hj
    unfold upd at hi hj
    split at hi <;> split at hj
    · rename_i e1 e2; rw [e1, e2]
    · cases hi; exact absurd (s.lt j _ _ hj).2 (Nat.lt_irrefl _)
    · cases hj; exact absurd (s.lt i _ _ hi).2 (Nat.lt_irrefl _)
    · exact s.inj i j b c1 c2 hi hj
  · have hi : upd E.ι ix (some (E.w.heap.size, c)) i = some (b, c1) := hi
    unfold upd at hi
    have hsz : w'.heap.size = E.w.heap.size + 1 := by rw [hw]; simp
    split at hi
    · rename_i e; cases hi; subst e
      exact ⟨(List.getElem?_eq_some_iff.1 hix).1, by show E.w.heap.size < w'.heap.size; omega⟩
    · rename_i e
      have := s.lt i b c1 hi
      have h1 : E.h[i]? = some E.h[i] := List.getElem?_eq_getElem this.1
      rw [← hh i e] at h1
      exact ⟨(List.getElem?_eq_some_iff.1 h1).1, by show b < w'.heap.size; omega⟩
  · have hi : upd E.ι ix (some (E.w.heap.size, c)) i = some (b, c1) := hi
    unfold upd at hi
    split at hi
    · rename_i e; cases hi; subst e
      have : some ob = some obi := hix.symm.trans hobi
      cases this
      exact hm.1
    · rename_i e
      exact OR.ext x (hheap b (s.lt i b c1 hi).2) obi (s.obj i b c1 obi hi ((hh i e).symm.trans hobi))
  · have hi : upd E.ι ix (some (E.w.heap.size, c)) i = some (b, c1) := hi
    unfold upd at hi
    split at hi
    · cases hi; exact absurd (s.xlt _ hX) (Nat.lt_irrefl _)
    · exact s.nx i b c1 hi hX
  · show b < w'.heap.size
    rw [hw]; simp; exact Nat.lt_succ_of_lt (s.xlt b hX)

/-- An object dies. -/
theorem kill_ok {o : Nat} {md : Nat} {e : TypeId} {sh : List K} {rs : List (List AV)} (s : Sim E) (ho : E.h[o]? = some (.arr md e sh rs)) :
    Sim ⟨upd E.ι o none, E.h.set o .dead, E.w, E.X⟩ ∧ Ext E ⟨upd E.ι o none, E.h.set o .dead, E.w, E.X⟩ := by
  have hlt : o < E.h.length := (List.getElem?_eq_some_iff.1 ho).1
  have x : Ext E ⟨upd E.ι o none, E.h.set o .dead, E.w, E.X⟩ := by
    refine ⟨fun i obi hi => ?_, fun b hb => ⟨⟨hb.1, fun i ci obi hi hobi => ?_⟩, rfl⟩, fun j b c' hj => ?_, Nat.le_refl _, rfl⟩
    · by_cases hio : o = i
      · subst hio; exact ⟨.dead, by simp [hlt], .inl rfl⟩
      · exact ⟨obi, by simpa [List.getElem?_set, hio] using hi, .inr ⟨rfl, fun p hp => by show upd E.ι o none i = some p; rw [upd, if_neg (Ne.symm hio)]; exact hp, fun _ _ _ _ _ _ _ _ e1 e2 => by rw [e1] at e2; cases e2; rfl⟩⟩
    · have h1 : upd E.ι o none i = some (b, ci) := hi
      unfold upd at h1
      split at h1
      · cases h1
      · rename_i hio
        exact hb.2 i ci obi h1 (by simpa [List.getElem?_set, Ne.symm hio] using hobi)
    · have hj : upd E.ι o none j = some (b, c') := hj
      unfold upd at hj
      split at hj
      · cases hj
      · exact .inr ⟨j, c', hj⟩
  refine ⟨⟨fun i j b c1 c2 hi hj => ?_, fun i b c1 hi => ?_, fun i b c1 obi hi hobi => ?_, fun i b c1 hi hX => ?_, s.xlt⟩, x⟩
  · have hi : upd E.ι o none i = some (b, c1) := hi
    have hj : upd E.ι o none j = some (b, c2) := hj
    unfold upd at hi hj
    split at hi
    · cases hi
    · split at hj
      · cases hj
      · exact s.inj i j b c1 c2 hi hj
  · have hi : upd E.ι o none i = some (b, c1) := hi
    unfold upd at hi
    split at hi
    · cases hi
    · have := s.lt i b c1 hi
      exact ⟨by simpa using this.1, this.2⟩
  · have hi : upd E.ι o none i = some (b, c1) := hi
    unfold upd at hi
    split at hi
    · cases hi
    · rename_i hio
      exact OR.ext x rfl obi (s.obj i b c1 obi hi (by simpa [List.getElem?_set, Ne.symm hio] using hobi))
  · have hi : upd E.ι o none i = some (b, c1) := hi
    unfold upd at hi
    split at hi
    · cases hi
    · exact s.nx i b c1 hi hX

/-- A backing is taken over by a new object. -/
theorem adopt_ok {o b c md : Nat} {e : TypeId} {sh : List K} {rs : List (List AV)} {ob' : AObj} {w' : World} (s : Sim E) (ho : E.h[o]? = some (.arr md e sh rs)) (hm : md ≠ 0) (hι : E.ι o = some (b, c))
    (hsz : w'.heap.size = E.w.heap.size) (hw : ∀ b', b' ≠ b → w'.heap[b']? = E.w.heap[b']?)
    (hob : Ext E ⟨upd (upd E.ι o none) E.h.length (some (b, c)), E.h.set o .dead ++ [ob'], w', E.X⟩ → OR ⟨upd (upd E.ι o none) E.h.length (some (b, c)), E.h.set o .dead ++ [ob'], w', E.X⟩ b c ob') :
    Sim ⟨upd (upd E.ι o none) E.h.length (some (b, c)), E.h.set o .dead ++ [ob'], w', E.X⟩ ∧ Ext E ⟨upd (upd E.ι o none) E.h.length (some (b, c)), E.h.set o .dead ++ [ob'], w', E.X⟩ := by
  have hlt : o < E.h.length := (List.getElem?_eq_some_iff.1 ho).1
  have hstill : ∀ b', E.quiet b' → b' ≠ b := fun b' h e' => by
    subst e'
    have := h.2 o c _ hι ho
    simp [AObj.mut] at this
    exact hm this
  have hold : ∀ i, i < E.h.length → i ≠ o → (E.h.set o .dead ++ [ob'])[i]? = E.h[i]? := fun i hi hio => by
    rw [List.getElem?_append, if_pos (by simpa using hi), List.getElem?_set, if_neg (Ne.symm hio)]
  have hnew : (E.h.set o .dead ++ [ob'])[E.h.length]? = some ob' := by
    rw [List.getElem?_append, if_neg (by simp)]; simp
  have cas : ∀ i p, upd (upd E.ι o none) E.h.length (some (b, c)) i = some p → (i = E.h.length ∧ p = (b, c)) ∨ (i ≠ E.h.length ∧ i ≠ o ∧ E.ι i = some p) := fun i p hi => by
    unfold upd at hi
    split at hi
    · rename_i h; cases hi; exact .inl ⟨h, rfl⟩
    · rename_i h
      split at hi
      · cases hi
      · rename_i h2; exact .inr ⟨h, h2, hi⟩
  have x : Ext E ⟨upd (upd E.ι o none) E.h.length (some (b, c)), E.h.set o .dead ++ [ob'], w', E.X⟩ := by
    refine ⟨fun i obi hi => ?_, fun b' h => ⟨⟨by show b' < w'.heap.size; rw [hsz]; exact h.1, fun i ci obi hi hobi => ?_⟩, hw b' (hstill b' h)⟩, fun j b1 c1 hj => ?_, by show E.w.heap.size ≤ w'.heap.size; omega, rfl⟩
    · have hil : i < E.h.length := (List.getElem?_eq_some_iff.1 hi).1
      by_cases hio : i = o
      · subst hio
        refine ⟨.dead, ?_, .inl rfl⟩
        show (E.h.set i .dead ++ [ob'])[i]? = _
        rw [List.getElem?_append, if_pos (by simpa using hil)]; simp [hil]
      · exact ⟨obi, (hold i hil hio).trans hi, .inr ⟨rfl, fun p hp => by show upd (upd E.ι o none) _ _ i = some p; unfold upd; rw [if_neg (by omega), if_neg hio]; exact hp, fun _ _ _ _ _ _ _ _ e1 e2 => (by rw [e1] at e2; cases e2; rfl)⟩⟩
    · rcases cas i _ hi with ⟨rfl, h2⟩ | ⟨h1, h2, h3⟩
      · cases h2; exact absurd rfl (hstill _ h)
      · exact h.2 i ci obi h3 ((hold i (s.lt i _ _ h3).1 h2).symm.trans hobi)
    · rcases cas j _ hj with ⟨_, h2⟩ | ⟨_, _, h3⟩
      · cases h2; exact .inr ⟨o, c, hι⟩
      · exact .inr ⟨j, c1, h3⟩
  refine ⟨⟨fun i j b1 c1 c2 hi hj => ?_, fun i b1 c1 hi => ?_, fun i b1 c1 obi hi hobi => ?_, fun i b1 c1 hi hX => ?_, fun b1 hX => (by show b1 < w'.heap.size; rw [hsz]; exact s.xlt b1 hX)⟩, x⟩
  · rcases cas i _ hi with ⟨rfl, h2⟩ | ⟨h1, h2, h3⟩ <;> rcases cas j _ hj with ⟨rfl, k2⟩ | ⟨k1, k2, k3⟩
    · rfl
    · cases h2; exact absurd (s.inj j o _ _ _ k3 hι) k2
    · cases k2; exact absurd (s.inj i o _ _ _ h3 hι) h2
    · exact s.inj i j _ _ _ h3 k3
  · rcases cas i _ hi with ⟨rfl, h2⟩ | ⟨h1, h2, h3⟩
    · cases h2; exact ⟨by simp, by show b < w'.heap.size; rw [hsz]; exact (s.lt o b c hι).2⟩
    · have := s.lt i _ _ h3
      exact ⟨by simp; omega, by show b1 < w'.heap.size; rw [hsz]; exact this.2⟩
  · rcases cas i _ hi with ⟨rfl, h2⟩ | ⟨h1, h2, h3⟩
    · cases h2
      have : some ob' = some obi := hnew.symm.trans hobi
      cases this
      exact hob x
    · exact OR.ext x (hw b1 fun e' => by subst e'; exact h2 (s.inj i o _ _ _ h3 hι)) obi (s.obj i b1 c1 obi h3 ((hold i (s.lt i _ _ h3).1 h2).symm.trans hobi))
  · rcases cas i _ hi with ⟨rfl, h2⟩ | ⟨h1, h2, h3⟩
    · cases h2; exact s.nx o _ _ hι hX
    · exact s.nx i b1 c1 h3 hX

theorem zlen {z : List AV} {zv : Value} (h : VL E z zv.cells.toList) : zv.cells.size = z.length := by have := h.len; simpa using this.symm

theorem append_ok {ts : List TypeId} {ty : TypeId} {sv x v : AV} {cs cx : Value} {h' : List AObj} (s : Sim E) (hsv : VR E sv cs) (hx : VR E x cx) (h : appendA P E.h ts sv x = some (v, h')) :
    ∃ cv w' ι', (Builtin.append_ ts.toArray ty #[cs, cx]).run P E.w = .ok cv w' ∧ Sim ⟨ι', h', w', E.X⟩ ∧ Ext E ⟨ι', h', w', E.X⟩ ∧ Wd E.w w' ∧ VR ⟨ι', h', w', E.X⟩ v cv ∧ (∀ i, E.ι i = none → i < E.h.length → ι' i = none ∧ h'[i]? = E.h[i]?) := by
  unfold appendA at h
  split at h
  · rename_i st xt
    split at h
    · rename_i e d hu hxu
      split at h
      · cases h
      · rename_i hd
        have hd' : (∃ e', d = .slice e') ∨ d = .string := by
          cases d <;> simp [okSrc] at hd
          · exact .inr rfl
          · exact .inl ⟨_, rfl⟩
        split at h
        · rename_i sh z hsh hz
          split at h
          · rename_i hzl
            split at h
            · rename_i news hnews
              obtain ⟨hs1, hs2⟩ := elemSh_ok hsh
              obtain ⟨i, zv, hi, hzv, hz1, hz2⟩ := zero_ok (E := E) hz
              have hisz : i.size = sh.length := by rw [hs1]; simp [szOf, Program.cellsOf, hi]
              have hiby : P.bytesOf e = i.bytes := by simp [Program.bytesOf, hi]
              obtain ⟨arr, hlen, hfirst, harr, hone, hrow⟩ := rows_ok (P := P) s hx hs2 hnews
              have harrsz : arr.size = news.length * sh.length := by
                have := harr.len
                rw [flat_len fun r hr => (hrow r hr).1] at this
                simpa using this.symm
              have hzs : zv.cells.size = sh.length := by have := hz1.len; simp at this; omega
              -- a new backing
              have grow : ∀ (base : Option Addr) (sLen sCap : Nat) (olds : Array Value) (rs : List (List AV)) (E1 : En), E1.w = E.w → Sim E1 → (∀ r ∈ rs, rowOk sh r) → rs.length = sLen → VL E1 rs.flatten olds.toList → (∀ q ∈ olds.toList, q.oneCell' = true) → VL E1 news.flatten arr.toList →
                  (Builtin.firstCells i.size sLen (.slice base sLen sCap)).run P E.w.drew = .ok olds E.w.drew → sCap < sLen + news.length → (sLen + news.length) * P.bytesOf e ≤ 140737488355328 → sLen + news.length ≤ 9223372036854775807 → E1.ι E1.h.length = none →
                  ∃ cv w' c, (Builtin.append_ #[st, xt] ty #[.slice base sLen sCap, cx]).run P E.w = .ok cv w' ∧ Sim ⟨upd E1.ι E1.h.length (some (E1.w.heap.size, c)), E1.h ++ [.arr 2 e sh (rs ++ news)], w', E1.X⟩ ∧ Ext E1 ⟨upd E1.ι E1.h.length (some (E1.w.heap.size, c)), E1.h ++ [.arr 2 e sh (rs ++ news)], w', E1.X⟩ ∧ Wd E.w w' ∧
                    VR ⟨upd E1.ι E1.h.length (some (E1.w.heap.size, c)), E1.h ++ [.arr 2 e sh (rs ++ news)], w', E1.X⟩ (.sl E1.h.length 0 (rs.length + news.length)) cv := by
                intro base sLen sCap olds rs E1 hE1 s1 hrs hrl hVo hoo hVn hfo hgt hby h63 hfree
                subst hrl
                have hrun := app_grow (ty := ty) (P := P) hu hxu hd' hi hzv hlen hfo (by rw [hisz]; exact hfirst _ rfl) hgt (by omega) (growslice_fits hgt (by rw [← hiby]; exact hby))
                have hge := grownCap_ge E.w (rs.length + news.length) sCap e
                have hcm := grownCap_le_maxLen E.w (rs.length + news.length) sCap e (by unfold maxLen; omega)
                have holdsz : olds.size = rs.length * sh.length := by
                  have := hVo.len
                  rw [flat_len fun r hr => (hrs r hr).1] at this
                  simpa using this.symm
                have hall : VL E1 (rs ++ news).flatten (olds ++ arr).toList := by
                  rw [List.flatten_append, Array.toList_append]; exact hVo.app hVn
                have hna := newArr (E := E1) (e := e) (sh := sh) (rs := rs ++ news) (a := olds ++ arr ++ Builtin.zeroCells zv.cells (grownCap E.w (rs.length + news.length) sCap e - (rs.length + news.length))) (ix := E1.h.length) (md := 2) (cap := grownCap E.w (rs.length + news.length) sCap e) (fr := (0, 0)) hs2
                  (fun r hr => by rcases List.mem_append.1 hr with h | h; exact hrs r h; exact hrow r h)
                  (by simp only [Array.size_append, size_zeroCells, hzs, holdsz, harrsz, ← Nat.add_mul]; congr 1; omega) (by simpa using hge) hcm (fun _ => ⟨rfl, rfl⟩) (fun i _ => by omega)
                  (fun j u hu' => by
                    obtain ⟨c, hc, h1, h2⟩ := hall.cell (fun q hq => by rw [Array.toList_append] at hq; rcases List.mem_append.1 hq with h | h; exact hoo q h; exact hone q h) hu'
                    have hlt : j < (olds ++ arr).size := by have := (List.getElem?_eq_some_iff.1 hc).1; simpa using this
                    exact ⟨c, by rw [Array.getElem?_append_left hlt, ← Array.getElem?_toList]; exact hc, h1, h2⟩)
                  (w' := E.w.drew.alloc (.cells (olds ++ arr ++ Builtin.zeroCells zv.cells (grownCap E.w (rs.length + news.length) sCap e - (rs.length + news.length))) e)) (by rw [hE1]; rfl) (by rw [hE1]; rfl) (by rw [hE1]; rfl) (by rw [hE1]; rfl)
                obtain ⟨c, g1, g2, g3, g4⟩ := new_ok s1 hna (E1.h ++ [.arr 2 e sh (rs ++ news)]) (fun i hi => by
                  rw [List.getElem?_append]
                  split
                  · rfl
                  · rename_i hge2
                    rw [List.getElem?_eq_none (l := E1.h) (by omega), List.getElem?_eq_none (by simp; omega)]) (by simp) hfree (.inl (by simp))
                rw [List.length_append] at g4
                exact ⟨_, _, c, hrun, g1, g2, by rw [hE1] at g3; exact g3, by rw [hE1] at g4 ⊢; exact g4⟩
              have hnone : ∀ {E1 : En}, Sim E1 → E1.ι E1.h.length = none := fun {E1} s1 => by
                cases hc : E1.ι E1.h.length with
                | none => rfl
                | some p => exact absurd (s1.lt _ p.1 p.2 hc).1 (Nat.lt_irrefl _)
              split at h
              · -- nil
                simp only [VR] at hsv
                subst hsv
                split at h
                · cases h
                  have hrun := app_room (ty := ty) (P := P) (base := none) (sLen := 0) (sCap := 0) hu hxu hd' hi hlen (by rw [hisz]; exact hfirst _ rfl) (Nat.le_refl _)
                  exact ⟨_, _, E.ι, by simpa using hrun, s, Ext.refl E, Wd.refl _, by simp [VR], fun i h1 _ => ⟨h1, rfl⟩⟩
                · rename_i hne
                  split at h
                  · rename_i hc
                    cases h
                    have hpos : 0 < news.length := by cases news with | nil => exact absurd rfl hne | cons _ _ => simp
                    obtain ⟨cv, w', c, g1, g2, g3, g4, g5⟩ := grow none 0 0 #[] [] E rfl s (by simp) rfl (by simp [VL]) (by simp) harr (by simp [Builtin.firstCells]) (by omega) (by simpa using hc.1) (by omega) (hnone s)
                    simp only [List.nil_append, List.length_nil, Nat.zero_add] at g2 g3 g5
                    refine ⟨cv, w', _, by simpa using g1, g2, g3, g4, g5, fun i h1 h2 => ⟨by rw [upd, if_neg (by omega)]; exact h1, by rw [List.getElem?_append, if_pos h2]⟩⟩
                  · cases h
              · rename_i o len
                split at h
                · rename_i e' sh' rs ho
                  split at h
                  · rename_i hc
                    obtain ⟨rfl, rfl, rfl, hby, h63⟩ := hc
                    cases h
                    simp only [VR, ho] at hsv
                    obtain ⟨b, c, cap, hι, rfl, hlc0, hoc, _⟩ := hsv
                    obtain ⟨h0, a, lo, hi2, hb, hasz, hlc, hcm, hrs, hRR, hfr, hno⟩ := s.obj o b c _ hι ho
                    have hcells := RR.cells (fun r hr => (hrs r hr).1) hRR
                    have hcc : cap = c := by omega
                    subst hcc
                    obtain ⟨s1, x1⟩ := kill_ok s ho
                    by_cases hroom : rs.length + news.length ≤ cap
                    · obtain ⟨rfl, rfl⟩ := hfr rfl
                      have hmul : rs.length * sh'.length + news.length * sh'.length ≤ cap * sh'.length := by rw [← Nat.add_mul]; exact Nat.mul_le_mul_right _ hroom
                      have halen : arr.toList.length = news.length * sh'.length := by simpa using harrsz
                      obtain ⟨w', a', g1, g2, g3, g4, g5, g6, g7, g8⟩ := stores_ok (P := P) (off := rs.length * sh'.length) E.w arr.toList hb (by omega) hone hno
                      have hrun := app_room (ty := ty) (P := P) (base := some ⟨b, 0, none⟩) (sLen := rs.length) (sCap := cap) hu hxu hd' hi hlen (by rw [hisz]; exact hfirst _ rfl) hroom
                      have hadd : (⟨b, 0, none⟩ : Addr).add (rs.length * i.size) = ⟨b, rs.length * sh'.length, none⟩ := by rw [Addr.add_lit, hisz]; simp
                      dsimp only at hrun
                      rw [hadd] at hrun
                      simp only [g1, Result.andThen_ok] at hrun
                      have e1 : a.toList.length = a.size := by simp
                      have e2 : a'.toList.length = a'.size := by simp
                      have ha' : a'.size = a.size := by
                        have h5 := congrArg List.length g3
                        rw [List.length_append, List.length_append, List.length_take, List.length_drop] at h5
                        omega
                      have hfl : rs.flatten.length = rs.length * sh'.length := flat_len fun r hr => (hrs r hr).1
                      have hm := adopt_ok (w' := w') (ob' := .arr 2 e' sh' (rs ++ news)) s ho (by simp) hι g4 g5 (fun x => ⟨hs2, a', 0, 0, g2, by rw [ha', hasz], by simpa using hroom, hcm,
                        fun r hr => by rcases List.mem_append.1 hr with h | h; exact hrs r h; exact hrow r h, RR_flat (fun r hr => by rcases List.mem_append.1 hr with h | h; exact (hrs r h).1; exact (hrow r h).1) (fun j u hu' => by
                          rw [cell_of_cells g2, Nat.zero_add, ← Array.getElem?_toList, g3, setAll_get (by omega)]
                          rw [List.flatten_append, List.getElem?_append] at hu'
                          split at hu'
                          · rename_i hj
                            rw [if_neg (by omega)]
                            obtain ⟨cu, h1, h2, h3⟩ := hcells j u hu'
                            rw [cell_of_cells hb, Nat.zero_add] at h1
                            exact ⟨cu, by rw [Array.getElem?_toList]; exact h1, h2, VR.ext x _ _ h3⟩
                          · rename_i hj
                            have hjl : j - rs.flatten.length < news.flatten.length := (List.getElem?_eq_some_iff.1 hu').1
                            rw [flat_len fun r hr => (hrow r hr).1] at hjl
                            obtain ⟨cu, h1, h2, h3⟩ := harr.cell hone hu'
                            rw [hfl] at h1 hjl
                            exact ⟨cu, by rw [if_pos (by omega)]; exact h1, h2, VR.ext x _ _ h3⟩), fun _ => ⟨rfl, rfl⟩, fun k _ => by omega⟩)
                      refine ⟨_, w', _, by simpa using hrun, hm.1, hm.2, ⟨g6, g7, g8, by rw [g4]; exact Nat.le_refl _⟩, ?_, fun i h1 h2 => ?_⟩
                      · have hnew : (E.h.set o .dead ++ [AObj.arr 2 e' sh' (rs ++ news)])[E.h.length]? = some (AObj.arr 2 e' sh' (rs ++ news)) := by
                          rw [List.getElem?_append, if_neg (by simp)]; simp
                        simp only [VR, hnew]
                        exact ⟨b, cap, cap, by simp [upd], by simp, hroom, by simp, by simp⟩
                      · have hio : i ≠ o := fun e => by subst e; rw [hι] at h1; cases h1
                        exact ⟨by show upd (upd E.ι o none) _ _ i = none; unfold upd; rw [if_neg (by omega), if_neg hio]; exact h1, by rw [List.getElem?_append, if_pos (by simpa using h2), List.getElem?_set, if_neg (Ne.symm hio)]⟩
                    · obtain ⟨olds, k1, k2, k3, k4⟩ := cells_at (P := P) (w := E.w) hcells
                      have hfo := run_firstCells_some (P := P) E.w.drew i.size rs.length ⟨b, 0, none⟩ rs.length cap olds (by rw [← k1.len, flat_len (fun r hr => (hrs r hr).1), hisz]) (fun j u hu' => by
                        rw [Addr.add_lit]
                        exact k4 j u hu')
                      have h0' : 0 * sh'.length = 0 := by simp
                      obtain ⟨cv, w', c', g1, g2, g3, g4, g5⟩ := grow (some ⟨b, 0, none⟩) rs.length cap olds.toArray rs ⟨upd E.ι o none, E.h.set o .dead, E.w, E.X⟩ rfl s1 hrs rfl (by simpa using VL.ext x1 _ _ k1) (by simpa using k2) (VL.ext x1 _ _ harr) hfo (by omega) hby h63 (hnone s1)
                      simp only [List.length_set] at g2 g3 g5
                      refine ⟨cv, w', _, by simpa [h0'] using g1, g2, x1.trans g3, g4, g5, fun i h1 h2 => ?_⟩
                      have hio : i ≠ o := fun e => by subst e; rw [hι] at h1; cases h1
                      refine ⟨?_, ?_⟩
                      · show upd (upd E.ι o none) _ _ i = none
                        unfold upd
                        rw [if_neg (by omega), if_neg hio]; exact h1
                      · rw [List.getElem?_append, if_pos (by simpa using h2), List.getElem?_set, if_neg (Ne.symm hio)]
                  · cases h
                · cases h
              · cases h
            · cases h
          · cases h
        · cases h
    · cases h
  · cases h
end
end Go.Proofs.YthihinlamlamhaaE
