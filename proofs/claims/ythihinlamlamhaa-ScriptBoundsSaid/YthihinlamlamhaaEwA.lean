/- Path mode with functions inlined and loops unrolled; only where a table says so is a spec taken. -/
import Derived.Test.YthihinlamlamhaaEvZ
namespace Go.Proofs.YthihinlamlamhaaE
open Go
set_option linter.unusedVariables false

/-- What must be shown, and is not worked out by the kernel. -/
inductive Hyp (p : Prop) : Prop where
  | mk (h : p)
theorem Hyp.get {p : Prop} : Hyp p → p | .mk h => h
theorem hyp_iff {p A : Prop} : Hyp p ∧ A ↔ p ∧ A := ⟨fun h => ⟨h.1.get, h.2⟩, fun h => ⟨.mk h.1, h.2⟩⟩
theorem loops_sub : ∀ (b c : Code), c ∈ loops b → ∀ d ∈ loops c, d ∈ loops b
  | .seq x y, c, h, d, hd => by
    simp only [loops, List.mem_append] at h ⊢
    exact h.elim (fun h => .inl (loops_sub x c h d hd)) fun h => .inr (loops_sub y c h d hd)
  | .cond _ x y, c, h, d, hd => by
    simp only [loops, List.mem_append] at h ⊢
    exact h.elim (fun h => .inl (loops_sub x c h d hd)) fun h => .inr (loops_sub y c h d hd)
  | .block _ x, c, h, d, hd => by simp only [loops] at h ⊢; exact loops_sub x c h d hd
  | .loop x, c, h, d, hd => by
    simp only [loops, List.mem_cons] at h ⊢
    rcases h with rfl | h
    · exact .inr hd
    · exact .inr (loops_sub x c h d hd)
  | .skip, _, h, _, _ | .region _ _ _, _, h, _, _ | .exit _, _, h, _, _ | .ret, _, h, _, _ | .rangeFunc _ _ _ _, _, h, _, _ | .scope _, _, h, _, _ | .label _, _, h, _, _ | .goto _, _, h, _, _ | .refuse _, _, h, _, _ => by simp [loops] at h

def onceQ (l : LW) (Q : Ex → List AV → List AObj → Prop) (ex : Ex) (vals : List AV) (h : List AObj) : Prop :=
  match ex with
  | .nrm => l vals h Q
  | .exit id => Q (.exit id) vals h
  | .ret => Q .ret vals h
section
variable {P : Program} {H : Hints} {O : Orc} {C : Ctx} {n : Nat} {L : Nat → LW}
theorem loop_once (hO : OkO P H O) (hC : C.P = P) {c : Code} {l : LW} (hL : ∀ c' ∈ loops c, LoopOk P H C n c' (L (firstR c'))) (hl : LoopOk P H C n c l) :
    LoopOk P H C n c fun vals h Q => bodyW C O L n c vals h (onceQ l Q) := by
  intro vals h Q hb
  unfold bodyW at hb
  obtain ⟨⟨ex, st'⟩, ⟨K1, e1⟩, hc, hlen, hb⟩ := execW_ok hO hC c hL _ (spread_len _ _ _ _) _ hb
  simp only at hc hlen hb
  have fin : ∀ ks, keepOf C ex = some ks → ex ≠ .nrm → Q ex (valsOf 0 ks st'.t) st'.h → ∃ ex ks vals' h', ex ≠ .nrm ∧ keepOf C ex = some ks ∧
      (∃ K, ∀ k m, K ≤ k → K ≤ m → iter1 (exec (atK P H C k) c) (gcS C.n0 (C.keep (firstR c))) m ⟨spread n 0 (C.keep (firstR c)) vals, h⟩ = some (ex, ⟨spread n 0 ks vals', h'⟩)) ∧ Q ex vals' h' := by
    intro ks hk hne hq
    refine ⟨ex, ks, _, _, hne, hk, ⟨K1, fun k m hk1 hm1 => ?_⟩, hq⟩
    have h1 := spread_vals st'.t 0 ks
    rw [hlen, hc ks hk] at h1
    rw [h1]
    have e1 := e1 k hk1
    simp only at e1
    unfold iter1
    rw [e1]
    cases ex with
    | nrm => exact absurd rfl hne
    | exit id => rfl
    | ret => rfl
  cases ex with
  | nrm =>
    have hb := gcW_ok hb
    simp only [onceQ] at hb
    obtain ⟨ex2, ks, vals2, h2, hne, hk, ⟨K2, e2⟩, hq⟩ := hl _ _ _ hb
    refine ⟨ex2, ks, vals2, h2, hne, hk, ⟨max K1 (K2 + 1), fun k m hk1 hm1 => ?_⟩, hq⟩
    have es : (⟨spread n 0 (C.keep (firstR c)) (valsOf 0 (C.keep (firstR c)) (gcS C.n0 (C.keep (firstR c)) st').t), (gcS C.n0 (C.keep (firstR c)) st').h⟩ : S) = gcS C.n0 (C.keep (firstR c)) st' := by
      have h1 := spread_vals (gcS C.n0 (C.keep (firstR c)) st').t 0 (C.keep (firstR c))
      rw [gcS_len, hlen, gcS_only] at h1
      rw [h1]
    rw [es] at e2
    have e1 := e1 k (by omega)
    simp only at e1
    unfold iter1
    rw [e1]
    obtain ⟨m', rfl⟩ : ∃ m', m = m' + 1 := ⟨m - 1, by omega⟩
    show iter _ _ (m' + 1) st' = _
    rw [iter_succ]
    exact e2 k m' (by omega) (by omega)
  | exit id =>
    simp only at hb
    split at hb
    · rename_i l' hk; exact fin l' hk (by simp) hb
    · exact hb.elim
  | ret =>
    simp only at hb
    split at hb
    · rename_i l' hk; exact fin l' hk (by simp) hb
    · exact hb.elim
end

/-! ### Loops unrolled -/
def findL (r : Nat) : List Code → Option Code
  | [] => none
  | c :: l => match Nat.beq (firstR c) r with
    | true => some c
    | false => findL r l
def memN (r : Nat) : List Code → Bool
  | [] => false
  | c :: l => Nat.beq (firstR c) r || memN r l
def dist : List Code → Bool
  | [] => true
  | c :: l => !memN (firstR c) l && dist l
theorem findL_of : ∀ {cs : List Code}, dist cs = true → ∀ c ∈ cs, findL (firstR c) cs = some c
  | [], _, c, h => by simp at h
  | d :: l, hd, c, h => by
    simp only [dist, Bool.and_eq_true, Bool.not_eq_true'] at hd
    simp only [findL]
    rcases List.mem_cons.1 h with rfl | h
    · simp
    · have : ∀ {l : List Code}, c ∈ l → memN (firstR c) l = true := by
        intro l
        induction l with
        | nil => intro h; simp at h
        | cons a l ih =>
          intro h
          simp only [memN, Bool.or_eq_true]
          rcases List.mem_cons.1 h with rfl | h
          · left; simp
          · right; exact ih h
      split
      · rename_i e
        have e := Nat.eq_of_beq_eq_true e
        rw [e, this h] at hd
        simp at hd
      · exact findL_of hd.2 c h
def lpOf (g : FuncId) (r : Nat) : List (FuncId × Nat × LW) → Option LW
  | [] => none
  | (g', r', l) :: t => match Nat.beq g' g, Nat.beq r' r with
    | true, true => some l
    | _, _ => lpOf g r t
def unrL (C : Ctx) (O : Orc) (n : Nat) (cs : List Code) (SL : Nat → Option LW) : Nat → Nat → LW
  | 0, r => match SL r with
    | some l => l
    | none => fun _ _ _ => False
  | u + 1, r => match SL r with
    | some l => l
    | none => match findL r cs with
      | some c => fun vals h Q => bodyW C O (unrL C O n cs SL u) n c vals h (onceQ (unrL C O n cs SL u r) Q)
      | none => fun _ _ _ => False
theorem unrL_ok {P : Program} {H : Hints} {O : Orc} {C : Ctx} {n : Nat} (hO : OkO P H O) (hC : C.P = P) {b : Code} (hd : dist (loops b) = true) {SL : Nat → Option LW}
    (hs : ∀ c ∈ loops b, ∀ l, SL (firstR c) = some l → LoopOk P H C n c l) : ∀ (u : Nat) (c : Code), c ∈ loops b → LoopOk P H C n c (unrL C O n (loops b) SL u (firstR c))
  | 0, c, hc => by
    unfold unrL
    split
    · rename_i l hl; exact hs c hc l hl
    · intro vals h Q hq; exact hq.elim
  | u + 1, c, hc => by
    unfold unrL
    split
    · rename_i l hl; exact hs c hc l hl
    · rw [findL_of hd c hc]
      exact loop_once hO hC (fun c' hc' => unrL_ok hO hC hd hs u c' (loops_sub b c hc c' hc')) (unrL_ok hO hC hd hs u c hc)

/-! ### Functions inlined -/
abbrev SW := List AV → List AObj → (AV × List AObj → Prop) → Prop
structure Sp where
  fn : List (FuncId × SW)
  lp : List (FuncId × Nat × LW)
def fnOf (g : FuncId) : List (FuncId × SW) → Option SW
  | [] => none
  | (g', s) :: t => match Nat.beq g' g with
    | true => some s
    | false => fnOf g t
/-- A loop's key: its first region, and 1000 for each object that was handed in. -/
def lpAt (g : FuncId) (n0 : Nat) (S : Sp) (r : Nat) : Option LW :=
  match Nat.ble r 999 with
  | true => lpOf g (r + 1000 * n0) S.lp
  | false => none
def lpW (g : FuncId) (n n0 m : Nat) (S : Sp) (r : Nat) : Option LW :=
  match Nat.beq n m with
  | true => lpAt g n0 S r
  | false => none
def inlW (P : Program) (H : Hints) (S : Sp) (U : Nat) (O : Orc) (g : FuncId) (args : List AV) (h : List AObj) (Q : AV × List AObj → Prop) : Prop :=
  match P.funcs[g]? with
  | some fn => match fn.body with
    | some c => chk (dist (loops c) = true) (funW P H O (unrL (ctxW P H g h.length) O (args ++ List.replicate (fn.ntmps - args.length) AV.undef).length (loops c) (lpW g (args ++ List.replicate (fn.ntmps - args.length) AV.undef).length h.length fn.ntmps S) U) g args h Q)
    | none => False
  | none => False
def InO (P : Program) (H : Hints) (S : Sp) (U : Nat) : Nat → Orc
  | 0 => fun g args h Q => match fnOf g S.fn with
    | some s => s args h Q
    | none => False
  | k + 1 => fun g args h Q => match fnOf g S.fn with
    | some s => s args h Q
    | none => inlW P H S U (InO P H S U k) g args h Q
/-- A spec is sound. -/
def OkS (P : Program) (H : Hints) (g : FuncId) (s : SW) : Prop := ∀ a h Q, s a h Q → Ev (fun k => run P H k g a h) Q
def OkF (P : Program) (H : Hints) : List (FuncId × SW) → Prop
  | [] => True
  | (g, s) :: t => OkS P H g s ∧ OkF P H t
/-- What is said of a loop holds. -/
def OkLp (P : Program) (H : Hints) (g : FuncId) (r : Nat) (l : LW) : Prop := ∀ fn c, P.funcs[g]? = some fn → fn.body = some c → ∀ c' ∈ loops c, firstR c' = r % 1000 → LoopOk P H (ctxW P H g (r / 1000)) fn.ntmps c' l
def OkL (P : Program) (H : Hints) : List (FuncId × Nat × LW) → Prop
  | [] => True
  | (g, r, l) :: t => OkLp P H g r l ∧ OkL P H t
structure OkSp (P : Program) (H : Hints) (S : Sp) : Prop where
  fn : OkF P H S.fn
  lp : OkL P H S.lp
section
variable {P : Program} {H : Hints} {S : Sp} {U : Nat}
theorem fnOf_ok {g : FuncId} {s : SW} : ∀ {l : List (FuncId × SW)}, OkF P H l → fnOf g l = some s → OkS P H g s
  | [], _, h => by simp [fnOf] at h
  | (g', s') :: t, ho, h => by
    simp only [fnOf] at h
    split at h
    · rename_i e; have e := Nat.eq_of_beq_eq_true e; subst e; cases h; exact ho.1
    · exact fnOf_ok ho.2 h
theorem lpOf_ok {g : FuncId} {r : Nat} {s : LW} : ∀ {l : List (FuncId × Nat × LW)}, OkL P H l → lpOf g r l = some s → OkLp P H g r s
  | [], _, h => by simp [lpOf] at h
  | (g', r', s') :: t, ho, h => by
    simp only [lpOf] at h
    split at h
    · rename_i e1 e2; have e1 := Nat.eq_of_beq_eq_true e1; have e2 := Nat.eq_of_beq_eq_true e2; subst e1; subst e2; cases h; exact ho.1
    · exact lpOf_ok ho.2 h
theorem lpAt_ok {g : FuncId} {n0 : Nat} {l : LW} (hS : OkL P H S.lp) {fn : Func} {b c' : Code} (hl : lpAt g n0 S (firstR c') = some l) (hf : P.funcs[g]? = some fn) (hb : fn.body = some b) (hc : c' ∈ loops b) : LoopOk P H (ctxW P H g n0) fn.ntmps c' l := by
  unfold lpAt at hl
  split at hl
  · rename_i e
    have e := Nat.le_of_ble_eq_true e
    have := lpOf_ok hS hl fn b hf hb c' hc (by omega)
    rwa [show (firstR c' + 1000 * n0) / 1000 = n0 by omega] at this
  · cases hl
theorem inlW_ok (hS : OkSp P H S) {O : Orc} (hO : OkO P H O) {g : FuncId} {args : List AV} {h : List AObj} {Q : AV × List AObj → Prop} (hq : inlW P H S U O g args h Q) : Ev (fun k => run P H k g args h) Q := by
  unfold inlW at hq
  split at hq
  · rename_i fn hf
    split at hq
    · rename_i c hb
      obtain ⟨hd, hq⟩ := chk_iff.1 hq
      refine funW_ok hO (fun fn' c' hf' hb' d hdm => ?_) hq
      rw [hf] at hf'; cases hf'
      rw [hb] at hb'; cases hb'
      refine unrL_ok hO rfl hd (fun c' hc' l hl => ?_) U d hdm
      unfold lpW at hl
      split at hl
      · rename_i e
        have e2 := Nat.eq_of_beq_eq_true e
        rw [e2]
        exact lpAt_ok hS.lp hl hf hb hc'
      · cases hl
    · exact hq.elim
  · exact hq.elim
theorem inO_ok (hS : OkSp P H S) : ∀ k, OkO P H (InO P H S U k)
  | 0 => fun g a h Q hq => by
    unfold InO at hq
    split at hq
    · rename_i s hs; exact fnOf_ok hS.fn hs a h Q hq
    · exact hq.elim
  | k + 1 => fun g a h Q hq => by
    unfold InO at hq
    split at hq
    · rename_i s hs; exact fnOf_ok hS.fn hs a h Q hq
    · exact inlW_ok hS (inO_ok hS k) hq
theorem in_ok (hS : OkSp P H S) {k : Nat} {g : FuncId} {args : List AV} {h : List AObj} {Q : AV × List AObj → Prop} (hq : inlW P H S U (InO P H S U k) g args h Q) : Ev (fun k => run P H k g args h) Q :=
  inlW_ok hS (inO_ok hS k) hq
end
/-- A loop's body, once, of function g. -/
def lpBody (P : Program) (H : Hints) (S : Sp) (U k : Nat) (g : FuncId) (r : Nat) (vals : List AV) (h : List AObj) (Q : Ex → List AV → List AObj → Prop) : Prop :=
  match P.funcs[g]? with
  | some fn => match fn.body with
    | some b => match findL (r % 1000) (loops b) with
      | some c => chk (dist (loops b) = true) (bodyW (ctxW P H g (r / 1000)) (InO P H S U k) (unrL (ctxW P H g (r / 1000)) (InO P H S U k) fn.ntmps (loops b) (lpAt g (r / 1000) S) U) fn.ntmps c vals h Q)
      | none => False
    | none => False
  | none => False
/-- A loop's spec, by a measure. -/
theorem okLp_of {P : Program} {H : Hints} {S : Sp} {U : Nat} (hS : OkSp P H S) {g : FuncId} {r k : Nat} (l : LW) (μ : List AV → List AObj → Nat)
    (step : ∀ vals h Q, l vals h Q → lpBody P H S U k g r vals h (stepQ l μ vals h Q)) : OkLp P H g r l := by
  intro fn b hf hb c' hc' hr vals h Q hl
  have key : ∀ vals h Q, lpBody P H S U k g r vals h Q → dist (loops b) = true ∧ bodyW (ctxW P H g (r / 1000)) (InO P H S U k) (unrL (ctxW P H g (r / 1000)) (InO P H S U k) fn.ntmps (loops b) (lpAt g (r / 1000) S) U) fn.ntmps c' vals h Q := by
    intro vals h Q hq
    unfold lpBody at hq
    simp only [hf, hb] at hq
    split at hq
    · rename_i c hc
      obtain ⟨hd, hq⟩ := chk_iff.1 hq
      have := findL_of hd c' hc'
      rw [hr, hc] at this
      cases this
      exact ⟨hd, hq⟩
    · exact hq.elim
  have hd := (key _ _ _ (step vals h Q hl)).1
  exact loop_rule (inO_ok hS k) rfl l μ (fun d hdm => unrL_ok (inO_ok hS k) rfl hd (fun c' hc' l hl => lpAt_ok hS.lp hl hf hb hc') U d (loops_sub b c' hc' d hdm))
    (fun vals h Q hl => (key _ _ _ (step vals h Q hl)).2) vals h Q hl
end Go.Proofs.YthihinlamlamhaaE
