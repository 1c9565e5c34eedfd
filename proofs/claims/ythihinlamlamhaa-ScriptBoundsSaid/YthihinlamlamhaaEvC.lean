/- How the interpreter's values and objects stand to the model's; what a step may change. -/
import Derived.Test.YthihinlamlamhaaEvB
import Derived.Below
namespace Go.Proofs.YthihinlamlamhaaE
open Go

structure En where
  ι : Nat → Option (Nat × Nat)
  h : List AObj
  w : World
  X : Nat → Prop

def AObj.mut : AObj → Bool
  | .box _ | .iter _ _ => true
  | .arr md _ _ _ => md != 0
  | .dead => false
def AObj.cls : AObj → Nat × List K
  | .box _ => (0, [])
  | .arr _ _ sh _ => (1, sh)
  | .iter _ _ => (2, [])
  | .dead => (3, [])

/-- A block that nobody here writes to any more; X: those that others may write to. -/
def En.quiet (E : En) (b : Nat) : Prop := b < E.w.heap.size ∧ ∀ o c ob, E.ι o = some (b, c) → E.h[o]? = some ob → ob.mut = false
def En.still (E : En) (b : Nat) : Prop := E.quiet b ∧ ¬ E.X b
def pureR (sh : List K) (r : List AV) : Bool := sh.all K.typed || (refsL r).isEmpty
def rowOk (sh : List K) (r : List AV) : Prop := r.length = sh.length ∧ ((sh.zip r).all fun p => kOk p.1 p.2) = true

mutual
def VR (E : En) : AV → Value → Prop
  | .int k n, cv => cv = .int k n
  | .bool b, cv => cv = .bool b
  | .str s, cv => cv = .string s
  | .nilp, cv => cv = .pointer none
  | .ptr o off, cv => match E.h[o]? with
    | some (.box _) | some (.iter _ _) => ∃ b c, E.ι o = some (b, c) ∧ cv = .pointer (some ⟨b, off, none⟩)
    | some .dead => ∃ a, cv = .pointer (some a)
    | _ => False
  | .eptr o i f, cv => match E.h[o]? with
    | some (.arr _ _ sh _) => ∃ b c, E.ι o = some (b, c) ∧ cv = .pointer (some ⟨b, i * sh.length + f, none⟩)
    | some .dead => ∃ a, cv = .pointer (some a)
    | _ => False
  | .rptr sh cs f, cv => ∃ b off, cv = .pointer (some ⟨b, off + f, none⟩) ∧ E.still b ∧ rowOk sh cs ∧ pureR sh cs = true ∧ CR E b off cs
  | .nils, cv => cv = .slice none 0 0
  | .sl o off len, cv => match E.h[o]? with
    | some (.arr _ _ sh rs) => ∃ b c cap, E.ι o = some (b, c) ∧ cv = .slice (some ⟨b, off * sh.length, none⟩) len cap ∧ len ≤ cap ∧ off + cap = c ∧ off + len ≤ rs.length
    | some .dead => ∃ a cap, cv = .slice (some a) len cap
    | _ => False
  | .row nl sh rs, cv => ∃ a cap, cv = .slice a rs.length cap ∧ rs.length ≤ cap ∧ cap ≤ maxLen ∧ (nl = true → a = none ∧ cap = 0) ∧ (nl = false → a ≠ none) ∧
      (rs = [] ∨ 0 < sh.length ∧ ∃ b off, a = some ⟨b, off, none⟩ ∧ E.still b ∧ (∀ r ∈ rs, rowOk sh r) ∧ (∀ r ∈ rs, pureR sh r = true) ∧ RR E b sh.length off rs)
  | .fn f a b, cv => ∃ x y, cv = .func f x y ∧ VL E a x.toList ∧ VL E b y.toList
  | .nilf, cv => cv = .nilFunc
  | .iface t v, cv => ∃ u, cv = .iface t u ∧ VR E v u
  | .nili, cv => cv = .nilIface
  | .agg cs, cv => ∃ a, cv = .agg a ∧ VL E cs a.toList ∧ ∀ x ∈ a.toList, x.oneCell' = true
  | .tup vs, cv => ∃ a, cv = .tuple a ∧ VL E vs a.toList
  | .gone, _ => True
def VL (E : En) : List AV → List Value → Prop
  | [], [] => True
  | v :: vs, c :: cs => VR E v c ∧ VL E vs cs
  | _, _ => False
def CR (E : En) (b : Nat) : Nat → List AV → Prop
  | _, [] => True
  | off, c :: cs => (∃ cv, E.w.cell? ⟨b, off, none⟩ = some cv ∧ cv.oneCell' = true ∧ VR E c cv) ∧ CR E b (off + 1) cs
def RR (E : En) (b n : Nat) : Nat → List (List AV) → Prop
  | _, [] => True
  | off, r :: rs => CR E b off r ∧ RR E b n (off + n) rs
end

/-- An object stands in block b; c: how many elements the block has room for. -/
def OR (E : En) (b c : Nat) : AObj → Prop
  | .box cs => ∃ a e, E.w.heap[b]? = some (.cells a e (0, 0)) ∧ VL E cs a.toList ∧ ∀ x ∈ a.toList, x.oneCell' = true
  | .arr md e sh rs => 0 < sh.length ∧ ∃ a lo hi, E.w.heap[b]? = some (.cells a e (lo, hi)) ∧ a.size = c * sh.length ∧ rs.length ≤ c ∧ c ≤ maxLen ∧
      (∀ r ∈ rs, rowOk sh r) ∧ RR E b sh.length 0 rs ∧ (md = 2 → lo = 0 ∧ hi = 0) ∧ (∀ i, i < a.size → ¬ (lo ≤ i ∧ i < hi))
  | .iter s p => E.w.heap[b]? = some (.stringIter s p)
  | .dead => True

structure Sim (E : En) : Prop where
  inj : ∀ i j b c d, E.ι i = some (b, c) → E.ι j = some (b, d) → i = j
  lt : ∀ i b c, E.ι i = some (b, c) → i < E.h.length ∧ b < E.w.heap.size
  obj : ∀ i b c ob, E.ι i = some (b, c) → E.h[i]? = some ob → OR E b c ob
  nx : ∀ i b c, E.ι i = some (b, c) → ¬ E.X b
  xlt : ∀ b, E.X b → b < E.w.heap.size

/-- What may change for values to stand as they stood. -/
structure Ext (E E' : En) : Prop where
  cls : ∀ o ob, E.h[o]? = some ob → ∃ ob', E'.h[o]? = some ob' ∧ (ob' = .dead ∨ (ob.cls = ob'.cls ∧ (∀ p, E.ι o = some p → E'.ι o = some p) ∧ (∀ md e sh rs md' e' sh' rs', ob = .arr md e sh rs → ob' = .arr md' e' sh' rs' → rs.length = rs'.length)))
  st : ∀ b, E.quiet b → E'.quiet b ∧ E'.w.heap[b]? = E.w.heap[b]?
  rng : ∀ j b c, E'.ι j = some (b, c) → E.w.heap.size ≤ b ∨ ∃ i d, E.ι i = some (b, d)
  sz : E.w.heap.size ≤ E'.w.heap.size
  ex : E'.X = E.X

theorem Ext.refl (E : En) : Ext E E :=
  ⟨fun o ob h => ⟨ob, h, .inr ⟨rfl, fun _ h => h, fun _ _ _ _ _ _ _ _ h1 h2 => by rw [h1] at h2; cases h2; rfl⟩⟩, fun _ h => ⟨h, rfl⟩, fun j _ c h => .inr ⟨j, c, h⟩, Nat.le_refl _, rfl⟩

theorem Ext.still {E E' : En} (x : Ext E E') {b : Nat} (h : E.still b) : E'.still b ∧ E'.w.heap[b]? = E.w.heap[b]? :=
  ⟨⟨(x.st b h.1).1, by rw [x.ex]; exact h.2⟩, (x.st b h.1).2⟩

theorem Ext.trans {A B C : En} (h : Ext A B) (k : Ext B C) : Ext A C := by
  refine ⟨fun o ob ho => ?_, fun b hb => ?_, fun j b c hj => ?_, Nat.le_trans h.sz k.sz, k.ex.trans h.ex⟩
  · obtain ⟨ob1, h1, hd⟩ := h.cls o ob ho
    obtain ⟨ob2, h2, kd⟩ := k.cls o ob1 h1
    refine ⟨ob2, h2, ?_⟩
    rcases kd with kd | ⟨k1, k2, k3⟩
    · exact .inl kd
    · rcases hd with rfl | ⟨d1, d2, d3⟩
      · left
        cases ob2 <;> simp [AObj.cls] at k1
        rfl
      · refine .inr ⟨d1.trans k1, fun p hp => k2 p (d2 p hp), fun md e sh rs md' e' sh' rs' e1 e2 => ?_⟩
        subst e1; subst e2
        cases ob1 <;> simp [AObj.cls] at d1
        rename_i md1 e1 sh1 rs1
        exact (d3 _ _ _ _ _ _ _ _ rfl rfl).trans (k3 _ _ _ _ _ _ _ _ rfl rfl)
  · obtain ⟨h1, h2⟩ := h.st b hb
    obtain ⟨k1, k2⟩ := k.st b h1
    exact ⟨k1, k2.trans h2⟩
  · rcases k.rng j b c hj with h1 | ⟨i, d, h1⟩
    · exact .inl (Nat.le_trans h.sz h1)
    · exact h.rng i b d h1

theorem cell_eq {w w' : World} {b off : Nat} (h : w'.heap[b]? = w.heap[b]?) : w'.cell? ⟨b, off, none⟩ = w.cell? ⟨b, off, none⟩ := by
  simp [World.cell?, h]

theorem cls_box {o : AObj} {cs : List AV} (h : (AObj.box cs).cls = o.cls) : ∃ cs', o = .box cs' := by
  cases o <;> simp [AObj.cls] at h
  exact ⟨_, rfl⟩
theorem cls_iter {o : AObj} {s : ByteArray} {p : Nat} (h : (AObj.iter s p).cls = o.cls) : ∃ s' p', o = .iter s' p' := by
  cases o <;> simp [AObj.cls] at h
  exact ⟨_, _, rfl⟩
theorem cls_arr {o : AObj} {md : Nat} {e : TypeId} {sh : List K} {rs : List (List AV)} (h : (AObj.arr md e sh rs).cls = o.cls) : ∃ md' e' rs', o = .arr md' e' sh rs' := by
  cases o <;> simp [AObj.cls] at h
  subst h
  exact ⟨_, _, _, rfl⟩
theorem cls_dead {o : AObj} (h : AObj.dead.cls = o.cls) : o = .dead := by
  cases o <;> simp [AObj.cls] at h
  rfl

mutual
theorem VR.ext {E E' : En} (x : Ext E E') : ∀ (v : AV) (cv : Value), VR E v cv → VR E' v cv
  | .int _ _, _, h | .bool _, _, h | .str _, _, h | .nilp, _, h | .nils, _, h | .nilf, _, h | .nili, _, h => by simpa only [VR] using h
  | .gone, _, _ => by simp only [VR]
  | .ptr o off, cv, h => by
    simp only [VR] at h ⊢
    cases ho : E.h[o]? with
    | none => simp [ho] at h
    | some ob =>
      obtain ⟨ob', h', hd⟩ := x.cls o ob ho
      rw [h']
      cases ob with
      | arr => simp [ho] at h
      | dead =>
        simp only [ho] at h
        rcases hd with rfl | ⟨hc, _⟩
        · exact h
        · rw [cls_dead hc]; exact h
      | box cs =>
        simp only [ho] at h
        obtain ⟨b, c, h1, rfl⟩ := h
        rcases hd with rfl | ⟨hc, hι, _⟩
        · exact ⟨_, rfl⟩
        · obtain ⟨cs', rfl⟩ := cls_box hc
          exact ⟨b, c, hι _ h1, rfl⟩
      | iter s p =>
        simp only [ho] at h
        obtain ⟨b, c, h1, rfl⟩ := h
        rcases hd with rfl | ⟨hc, hι, _⟩
        · exact ⟨_, rfl⟩
        · obtain ⟨_, _, rfl⟩ := cls_iter hc
          exact ⟨b, c, hι _ h1, rfl⟩
  | .eptr o i f, cv, h => by
    simp only [VR] at h ⊢
    cases ho : E.h[o]? with
    | none => simp [ho] at h
    | some ob =>
      obtain ⟨ob', h', hd⟩ := x.cls o ob ho
      rw [h']
      cases ob with
      | box => simp [ho] at h
      | iter => simp [ho] at h
      | dead =>
        simp only [ho] at h
        rcases hd with rfl | ⟨hc, _⟩
        · exact h
        · rw [cls_dead hc]; exact h
      | arr md e sh rs =>
        simp only [ho] at h
        obtain ⟨b, c, h1, rfl⟩ := h
        rcases hd with rfl | ⟨hc, hι, _⟩
        · exact ⟨_, rfl⟩
        · obtain ⟨_, _, _, rfl⟩ := cls_arr hc
          exact ⟨b, c, hι _ h1, rfl⟩
  | .sl o off len, cv, h => by
    simp only [VR] at h ⊢
    cases ho : E.h[o]? with
    | none => simp [ho] at h
    | some ob =>
      obtain ⟨ob', h', hd⟩ := x.cls o ob ho
      rw [h']
      cases ob with
      | box => simp [ho] at h
      | iter => simp [ho] at h
      | dead =>
        simp only [ho] at h
        rcases hd with rfl | ⟨hc, _⟩
        · exact h
        · rw [cls_dead hc]; exact h
      | arr md e sh rs =>
        simp only [ho] at h
        obtain ⟨b, c, cap, h1, rfl, h2, h3, h4⟩ := h
        rcases hd with rfl | ⟨hc, hι, hl⟩
        · exact ⟨_, _, rfl⟩
        · obtain ⟨_, _, _, rfl⟩ := cls_arr hc
          exact ⟨b, c, cap, hι _ h1, rfl, h2, h3, by rw [← hl _ _ _ _ _ _ _ _ rfl rfl]; exact h4⟩
  | .rptr sh cs f, cv, h => by
    simp only [VR] at h ⊢
    obtain ⟨b, off, rfl, hs, hk, hp, hc⟩ := h
    exact ⟨b, off, rfl, (x.still hs).1, hk, hp, CR.ext x (x.still hs).2 cs off hc⟩
  | .row nl sh rs, cv, h => by
    simp only [VR] at h ⊢
    obtain ⟨a, cap, rfl, h1, h2, h4, h5, h3⟩ := h
    refine ⟨a, cap, rfl, h1, h2, h4, h5, ?_⟩
    rcases h3 with h3 | ⟨h0, b, off, rfl, hs, hk, hp, hr⟩
    · exact .inl h3
    · exact .inr ⟨h0, b, off, rfl, (x.still hs).1, hk, hp, RR.ext x (x.still hs).2 rs off hr⟩
  | .fn f a b, cv, h => by
    simp only [VR] at h ⊢
    obtain ⟨p, q, rfl, h1, h2⟩ := h
    exact ⟨p, q, rfl, VL.ext x a _ h1, VL.ext x b _ h2⟩
  | .iface t v, cv, h => by
    simp only [VR] at h ⊢
    obtain ⟨u, rfl, h1⟩ := h
    exact ⟨u, rfl, VR.ext x v u h1⟩
  | .agg cs, cv, h => by
    simp only [VR] at h ⊢
    obtain ⟨a, rfl, h1, h2⟩ := h
    exact ⟨a, rfl, VL.ext x cs _ h1, h2⟩
  | .tup cs, cv, h => by
    simp only [VR] at h ⊢
    obtain ⟨a, rfl, h1⟩ := h
    exact ⟨a, rfl, VL.ext x cs _ h1⟩
theorem VL.ext {E E' : En} (x : Ext E E') : ∀ (vs : List AV) (cs : List Value), VL E vs cs → VL E' vs cs
  | [], [], _ => by simp only [VL]
  | [], _ :: _, h => by simp [VL] at h
  | _ :: _, [], h => by simp [VL] at h
  | v :: vs, c :: cs, h => by
    simp only [VL] at h ⊢
    exact ⟨VR.ext x v c h.1, VL.ext x vs cs h.2⟩
theorem CR.ext {E E' : En} (x : Ext E E') {b : Nat} (hb : E'.w.heap[b]? = E.w.heap[b]?) : ∀ (cs : List AV) (off : Nat), CR E b off cs → CR E' b off cs
  | [], _, _ => by simp only [CR]
  | c :: cs, off, h => by
    simp only [CR] at h ⊢
    obtain ⟨⟨cv, h1, h2, h3⟩, h4⟩ := h
    exact ⟨⟨cv, by rw [cell_eq hb]; exact h1, h2, VR.ext x c cv h3⟩, CR.ext x hb cs (off + 1) h4⟩
theorem RR.ext {E E' : En} (x : Ext E E') {b n : Nat} (hb : E'.w.heap[b]? = E.w.heap[b]?) : ∀ (rs : List (List AV)) (off : Nat), RR E b n off rs → RR E' b n off rs
  | [], _, _ => by simp only [RR]
  | r :: rs, off, h => by
    simp only [RR] at h ⊢
    exact ⟨CR.ext x hb r off h.1, RR.ext x hb rs (off + n) h.2⟩
end

theorem OR.ext {E E' : En} (x : Ext E E') {b c : Nat} (hb : E'.w.heap[b]? = E.w.heap[b]?) : ∀ (ob : AObj), OR E b c ob → OR E' b c ob
  | .box cs, ⟨a, e, h1, h2, h3⟩ => ⟨a, e, by rw [hb]; exact h1, VL.ext x cs _ h2, h3⟩
  | .arr md e sh rs, ⟨h0, a, lo, hi, h1, h2, h3, h4, h5, h6, h7⟩ => ⟨h0, a, lo, hi, by rw [hb]; exact h1, h2, h3, h4, h5, RR.ext x hb rs 0 h6, h7⟩
  | .iter s p, h => by simp only [OR] at h ⊢; rw [hb]; exact h
  | .dead, _ => trivial

/-! ### Lists -/
theorem VL.len {E : En} : ∀ {vs : List AV} {cs : List Value}, VL E vs cs → vs.length = cs.length
  | [], [], _ => rfl
  | [], _ :: _, h => by simp [VL] at h
  | _ :: _, [], h => by simp [VL] at h
  | _ :: vs, _ :: cs, h => by
    simp only [VL] at h
    simp [VL.len h.2]
theorem VL.get {E : En} : ∀ {vs : List AV} {cs : List Value}, VL E vs cs → ∀ (i : Nat) (v : AV), vs[i]? = some v → ∃ c, cs[i]? = some c ∧ VR E v c
  | [], [], _, i, v, hv => by simp at hv
  | [], _ :: _, h, _, _, _ => by simp [VL] at h
  | _ :: _, [], h, _, _, _ => by simp [VL] at h
  | u :: vs, c :: cs, h, i, v, hv => by
    simp only [VL] at h
    cases i with
    | zero => simp at hv; subst hv; exact ⟨c, rfl, h.1⟩
    | succ i => simp at hv ⊢; exact VL.get h.2 i v hv
theorem VL.of {E : En} : ∀ {vs : List AV} {cs : List Value}, vs.length = cs.length → (∀ (i : Nat) (v : AV) (c : Value), vs[i]? = some v → cs[i]? = some c → VR E v c) → VL E vs cs
  | [], [], _, _ => by simp only [VL]
  | [], _ :: _, h, _ => by simp at h
  | _ :: _, [], h, _ => by simp at h
  | v :: vs, c :: cs, h, k => by
    simp only [VL]
    exact ⟨k 0 v c rfl rfl, VL.of (by simpa using h) fun i u d hu hd => k (i + 1) u d (by simpa using hu) (by simpa using hd)⟩
theorem VL.take {E : En} {vs : List AV} {cs : List Value} (h : VL E vs cs) (n : Nat) : VL E (vs.take n) (cs.take n) :=
  VL.of (by simp [h.len]) fun i v c hv hc => by
    simp only [List.getElem?_take] at hv hc
    split at hv
    · rename_i hi; simp only [hi, if_true] at hc
      obtain ⟨d, hd, hr⟩ := h.get i v hv
      rw [hd] at hc; cases hc; exact hr
    · cases hv
theorem VL.drop {E : En} {vs : List AV} {cs : List Value} (h : VL E vs cs) (n : Nat) : VL E (vs.drop n) (cs.drop n) :=
  VL.of (by simp [h.len]) fun i v c hv hc => by
    simp only [List.getElem?_drop] at hv hc
    obtain ⟨d, hd, hr⟩ := h.get _ v hv
    rw [hd] at hc; cases hc; exact hr
theorem VL.app {E : En} : ∀ {vs : List AV} {cs : List Value} {us : List AV} {ds : List Value}, VL E vs cs → VL E us ds → VL E (vs ++ us) (cs ++ ds)
  | [], [], _, _, _, k => by simpa using k
  | [], _ :: _, _, _, h, _ => by simp [VL] at h
  | _ :: _, [], _, _, h, _ => by simp [VL] at h
  | v :: vs, c :: cs, us, ds, h, k => by
    simp only [VL, List.cons_append] at h ⊢
    exact ⟨h.1, VL.app h.2 k⟩
theorem VL.set {E : En} {vs : List AV} {cs : List Value} (h : VL E vs cs) (i : Nat) {v : AV} {c : Value} (hv : VR E v c) : VL E (vs.set i v) (cs.set i c) :=
  VL.of (by simp [h.len]) fun j u d hu hd => by
    simp only [List.getElem?_set] at hu hd
    by_cases hij : i = j
    · subst hij
      simp only [if_true] at hu hd
      split at hu
      · rename_i hl; cases hu; rw [if_pos (by rw [← h.len]; exact hl)] at hd; cases hd; exact hv
      · cases hu
    · simp only [hij, if_false] at hu hd
      obtain ⟨d', hd', hr⟩ := h.get j u hu
      rw [hd'] at hd; cases hd; exact hr
theorem CR.get {E : En} {b : Nat} : ∀ {cs : List AV} {off : Nat}, CR E b off cs → ∀ (i : Nat) (v : AV), cs[i]? = some v → ∃ cv, E.w.cell? ⟨b, off + i, none⟩ = some cv ∧ cv.oneCell' = true ∧ VR E v cv
  | [], _, _, i, v, hv => by simp at hv
  | c :: cs, off, h, i, v, hv => by
    simp only [CR] at h
    cases i with
    | zero => simp at hv; subst hv; exact h.1
    | succ i =>
      simp at hv
      have := CR.get h.2 i v hv
      rw [show off + (i + 1) = off + 1 + i from by omega]; exact this
theorem CR.of {E : En} {b : Nat} : ∀ {cs : List AV} {off : Nat}, (∀ (i : Nat) (v : AV), cs[i]? = some v → ∃ cv, E.w.cell? ⟨b, off + i, none⟩ = some cv ∧ cv.oneCell' = true ∧ VR E v cv) → CR E b off cs
  | [], _, _ => by simp only [CR]
  | c :: cs, off, h => by
    simp only [CR]
    refine ⟨h 0 c rfl, CR.of fun i v hv => ?_⟩
    have := h (i + 1) v (by simpa using hv)
    rw [show off + 1 + i = off + (i + 1) from by omega]; exact this
theorem RR.get {E : En} {b n : Nat} : ∀ {rs : List (List AV)} {off : Nat}, RR E b n off rs → ∀ (i : Nat) (r : List AV), rs[i]? = some r → CR E b (off + i * n) r
  | [], _, _, i, v, hv => by simp at hv
  | r :: rs, off, h, i, v, hv => by
    simp only [RR] at h
    cases i with
    | zero => simp at hv; subst hv; simpa using h.1
    | succ i =>
      simp at hv
      have := RR.get h.2 i v hv
      rw [Nat.succ_mul, show off + (i * n + n) = off + n + i * n from by omega]; exact this
theorem RR.of {E : En} {b n : Nat} : ∀ {rs : List (List AV)} {off : Nat}, (∀ (i : Nat) (r : List AV), rs[i]? = some r → CR E b (off + i * n) r) → RR E b n off rs
  | [], _, _ => by simp only [RR]
  | r :: rs, off, h => by
    simp only [RR]
    refine ⟨by simpa using h 0 r rfl, RR.of fun i v hv => ?_⟩
    have := h (i + 1) v (by simpa using hv)
    rw [show off + n + i * n = off + (i + 1) * n from by rw [Nat.succ_mul]; omega]; exact this

end Go.Proofs.YthihinlamlamhaaE
