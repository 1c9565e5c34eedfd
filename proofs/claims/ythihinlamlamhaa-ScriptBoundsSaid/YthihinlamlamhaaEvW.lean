/- Path mode is sound: calls and regions. -/
import Derived.Test.YthihinlamlamhaaEvV
namespace Go.Proofs.YthihinlamlamhaaE
open Go
set_option linter.unusedVariables false

theorem frcNg_ok : ∀ (f n : Nat) (K : Nat → Prop), frcNg f n K → K n
  | 0, n, K, h => h
  | f + 1, n, K, h => by
    unfold frcNg at h
    split at h
    · rename_i e; rw [Nat.eq_of_beq_eq_true e]; exact h
    · exact frcNg_ok f n K h
theorem frcN_ok {n : Nat} {K : Nat → Prop} (h : frcN n K) : K n := frcNg_ok 40 n K h
mutual
theorem frcV_ok : ∀ (v : AV) (K : AV → Prop), frcV v K → K v
  | .ptr o off, K, h => by simp only [frcV] at h; exact frcN_ok h
  | .eptr o i f, K, h => by simp only [frcV] at h; exact frcN_ok h
  | .sl o off len, K, h => by simp only [frcV] at h; exact frcN_ok h
  | .fn g a b, K, h => by simp only [frcV] at h; exact frcL_ok b _ (frcL_ok a _ h)
  | .iface t v, K, h => by simp only [frcV] at h; exact frcV_ok v _ h
  | .agg cs, K, h => by simp only [frcV] at h; exact frcL_ok cs _ h
  | .tup vs, K, h => by simp only [frcV] at h; exact frcL_ok vs _ h
  | .int _ _, K, h | .bool _, K, h | .str _, K, h | .nilp, K, h | .rptr _ _ _, K, h | .nils, K, h | .row _ _ _, K, h | .nilf, K, h | .nili, K, h | .gone, K, h => by
    simpa only [frcV] using h
theorem frcL_ok : ∀ (l : List AV) (K : List AV → Prop), frcL l K → K l
  | [], K, h => by simpa only [frcL] using h
  | v :: l, K, h => by simp only [frcL] at h; exact frcL_ok l _ (frcV_ok v _ h)
end
theorem frcO_ok {ob : AObj} {K : AObj → Prop} (h : frcO ob K) : K ob := by
  cases ob with
  | box cs => simp only [frcO] at h; exact frcL_ok cs _ h
  | arr _ _ _ _ => exact h
  | iter _ _ => exact h
  | dead => exact h
theorem frcH_ok : ∀ (l : List AObj) (K : List AObj → Prop), frcH l K → K l
  | [], K, h => h
  | ob :: l, K, h => by simp only [frcH] at h; exact frcH_ok l _ (frcO_ok h)
theorem frcNs_ok : ∀ (l : List Nat) (K : List Nat → Prop), frcNs l K → K l
  | [], K, h => h
  | n :: l, K, h => by simp only [frcNs] at h; exact frcNs_ok l _ (frcN_ok h)
theorem frcS_ok {st : S} {K : S → Prop} (h : frcS st K) : K st := frcH_ok _ _ (frcL_ok _ _ h)

theorem frcLL_ok : ∀ (l : List (List AV)) (K : List (List AV) → Prop), frcLL l K → K l
  | [], K, h => h
  | r :: l, K, h => by simp only [frcLL] at h; exact frcLL_ok l _ (frcL_ok r _ h)
theorem frcB_ok {ob : Option AObj} {K : Option AObj → Prop} (h : frcB ob K) : K ob := by
  unfold frcB at h
  split at h
  · exact frcLL_ok _ _ h
  · exact h
theorem frcOp_ok {o : Op} {ob : Option AObj} {K : Option AObj → Prop} (h : frcOp o ob K) : K ob := by
  unfold frcOp at h
  split at h
  · exact frcB_ok h
  · exact h

theorem absW_ok {b : Bool} {o : Op} {v : AV} {Q : AV → Prop} (h : absW b o v Q) : Q v := by
  unfold absW at h
  split at h
  · split at h
    · split at h
      · exact h _ rfl
      · exact h
    · exact h
  · exact h
/-- From some fuel on. -/
def Ev {α : Type} (X : Nat → Option α) (Q : α → Prop) : Prop := ∃ a, (∃ K, ∀ k, K ≤ k → X k = some a) ∧ Q a
def OkO (P : Program) (H : Hints) (O : Orc) : Prop := ∀ g a h Q, O g a h Q → Ev (fun k => run P H k g a h) Q
theorem Ev.const {α : Type} {X : Option α} {w : (α → Prop) → Prop} (h : OkW X w) {Q : α → Prop} (hq : w Q) : Ev (fun _ => X) Q := by
  obtain ⟨a, h1, h2⟩ := h Q hq
  exact ⟨a, ⟨0, fun _ _ => h1⟩, h2⟩
theorem Ev.of {α : Type} {X : Nat → Option α} {Q : α → Prop} {a : α} (h : ∀ k, X k = some a) (hq : Q a) : Ev X Q := ⟨a, ⟨0, fun k _ => h k⟩, hq⟩
theorem Ev.bind {α β : Type} {X : Nat → Option α} {R : α → Prop} {Y : Nat → α → Option β} {Q : β → Prop} (h1 : Ev X R) (h2 : ∀ a, R a → Ev (fun k => Y k a) Q) :
    Ev (fun k => (X k).bind (Y k)) Q := by
  obtain ⟨a, ⟨K1, e1⟩, hr⟩ := h1
  obtain ⟨b, ⟨K2, e2⟩, hq⟩ := h2 a hr
  exact ⟨b, ⟨max K1 K2, fun k hk => by show (X k).bind (Y k) = _; rw [e1 k (by omega)]; exact e2 k (by omega)⟩, hq⟩
theorem Ev.map {α β : Type} {X : Nat → Option α} {Q : β → Prop} {f : α → β} (h : Ev X fun a => Q (f a)) : Ev (fun k => (X k).map f) Q := by
  obtain ⟨a, ⟨K1, e1⟩, hr⟩ := h
  exact ⟨f a, ⟨K1, fun k hk => by show (X k).map f = _; rw [e1 k hk]; rfl⟩, hr⟩
theorem Ev.congr {α : Type} {X Y : Nat → Option α} {Q : α → Prop} (e : ∀ k, X k = Y k) (h : Ev X Q) : Ev Y Q := by
  obtain ⟨a, ⟨K1, e1⟩, hr⟩ := h
  exact ⟨a, ⟨K1, fun k hk => by rw [← e k]; exact e1 k hk⟩, hr⟩

section
variable {P : Program} {H : Hints} {O : Orc}
/-- The context of a run. -/
def atK (P : Program) (H : Hints) (C : Ctx) (k : Nat) : Ctx := ⟨P, run P H k, k, C.n0, C.keep, C.keepX, C.keepR, C.abs⟩

theorem callAW_ok (hO : OkO P H O) (h : List AObj) (g : FuncId) (args : List AV) (Q : AV × List AObj → Prop) (hq : callAW O h g args Q) : Ev (fun k => callA (run P H k) h g args) Q := by
  unfold callAW at hq
  have h1 := frLW_ok h args _ hq
  unfold callGo at h1
  have h2 := hO _ _ _ _ (frcH_ok _ _ (frcL_ok _ _ (frcNs_ok _ _ h1)))
  obtain ⟨⟨v, h'⟩, ⟨K, e⟩, hb⟩ := h2
  unfold backA at hb
  obtain ⟨hl, hb⟩ := chk_iff.1 hb
  have hb := frcH_ok _ _ (frcV_ok _ _ hb)
  refine ⟨_, ⟨K, fun k hk => ?_⟩, hb⟩
  have e := e k hk
  show callA (run P H k) h g args = _
  unfold callA
  rw [show run P H k g (mapL (idx · (sig h args)) (argsF h args)) ((sig h args).map fun i => mapO (idx · (sig h args)) ((heapF h args).getD i .dead)) = some (v, h') from e]
  exact if_pos (show (sig h args).length ≤ h'.length from hl)

theorem wrAW_ok (hO : OkO P H O) {C : Ctx} (hC : C.P = P) (ρ : Operand → AV) (h : List AObj) (o : Oper) (Q : AV × List AObj → Prop) (hq : wrAW C O ρ h o Q) :
    Ev (fun k => wrA (atK P H C k) ρ h o) Q := by
  subst hC
  unfold wrAW at hq
  split at hq
  · rename_i ho
    obtain ⟨h', h1, h2⟩ := storeAW_ok _ _ _ _ _ _ hq
    exact Ev.of (fun k => by simp only [wrA, ho, atK, h1]; rfl) h2
  · rename_i ho
    obtain ⟨p, h1, h2⟩ := nextAW_ok _ _ _ hq
    exact Ev.of (fun k => by simp only [wrA, ho, h1]) h2
  · rename_i ho
    split at hq
    · rename_i hl
      obtain ⟨p, h1, h2⟩ := appendAW_ok _ _ _ _ _ _ hq
      exact Ev.of (fun k => by simp only [wrA, ho, hl, atK, h1]) h2
    · exact hq.elim
  · exact hq.elim
  · rename_i op n1 n2 n3 n4
    split at hq
    · rename_i g args hc
      obtain ⟨hb, hq⟩ := chk_iff.1 hq
      refine Ev.congr (fun k => ?_) (callAW_ok hO h g args Q hq)
      unfold wrA
      split
      · rename_i ho; exact absurd ho (n1 _ _ _)
      · rename_i ho; exact absurd ho (n2 _)
      · rename_i ho; exact absurd ho (n3 _ _)
      · rename_i ho; exact absurd ho (n4 _ _ _)
      · simp only [atK, hc, hb, if_true]
    · exact hq.elim

theorem opAW_ok (hO : OkO P H O) {C : Ctx} (hC : C.P = P) (ρ : Operand → AV) (h : List AObj) (o : Oper) (Q : AV × List AObj → Prop) (hq : opAW C O ρ h o Q) :
    Ev (fun k => opA (atK P H C k) ρ h o) Q := by
  unfold opAW at hq
  split at hq
  · rename_i hw
    exact Ev.congr (fun k => by unfold opA; rw [hw]; rfl) (wrAW_ok hO hC ρ h o Q hq)
  · rename_i hw
    obtain ⟨p, h1, h2⟩ := nwAW_ok _ _ _ _ _ _ hq
    have h2 := absW_ok (frcOp_ok h2)
    exact Ev.of (fun k => by unfold opA; rw [hw]; simp only [atK]; rw [← hC, h1]; rfl) h2
theorem wantedW_ok {ops : Array Oper} {t : List AV} {o : Oper} {A B : Prop} (h : wantedW ops t o A B) : (wantedA ops t o = some true ∧ A) ∨ (wantedA ops t o = some false ∧ B) := by
  unfold wantedW at h
  unfold wantedA
  split at h
  · rename_i hg; rw [hg]; exact .inl ⟨by simp, h⟩
  · rename_i j want hg
    simp only [hg]
    split at h
    · rename_i hd; simp only [hd]; exact .inr ⟨by simp, h⟩
    · rename_i d hd
      simp only [hd]
      split at h
      · rename_i b hb
        simp only [hb]
        cases want with
        | true =>
          rcases br_iff.1 h with ⟨rfl, h⟩ | ⟨rfl, h⟩
          · exact .inl ⟨rfl, h⟩
          · exact .inr ⟨rfl, h⟩
        | false =>
          rcases br_iff.1 h with ⟨rfl, h⟩ | ⟨rfl, h⟩
          · exact .inr ⟨rfl, h⟩
          · exact .inl ⟨rfl, h⟩
      · exact h.elim
      · rename_i n1 n2
        refine .inr ⟨?_, h⟩
        split
        · rename_i e; exact absurd e (n1 _)
        · rename_i e; exact absurd e n2
        · rfl
theorem spl_ok {b : Bool} {v : AV} {K : AV → Prop} (h : spl b v K) : K v := by
  unfold spl at h
  split at h
  · split at h
    · rcases br_iff.1 h with ⟨rfl, h⟩ | ⟨rfl, h⟩ <;> exact h
    · exact h
  · exact h
theorem stepW_ok (hO : OkO P H O) {C : Ctx} (hC : C.P = P) (ops : Array Oper) (i : Nat) (st : S) (Q : S → Prop) (hq : stepW C O ops i st Q) :
    Ev (fun k => stepA (atK P H C k) ops i st) Q := by
  unfold stepW at hq
  unfold stepA
  split at hq
  · rename_i ho; simp only [ho]; exact Ev.of (fun _ => rfl) hq
  · rename_i o ho
    simp only [ho]
    rcases wantedW_ok hq with ⟨hw, hq⟩ | ⟨hw, hq⟩
    · simp only [hw, if_true]
      refine Ev.map ?_
      obtain ⟨a, h1, h2⟩ := opAW_ok hO hC _ _ _ _ hq
      exact ⟨a, h1, spl_ok h2⟩
    · simp only [hw]
      exact Ev.of (fun _ => rfl) hq
theorem runOpsW_ok (hO : OkO P H O) {C : Ctx} (hC : C.P = P) (ops : Array Oper) : ∀ (is : List Nat) (st : S) (Q : S → Prop), runOpsW C O ops is st Q → Ev (fun k => runOps (atK P H C k) ops is st) Q
  | [], st, Q, hq => Ev.of (fun _ => rfl) hq
  | i :: is, st, Q, hq => by
    simp only [runOpsW] at hq
    simp only [runOps]
    exact Ev.bind (stepW_ok hO hC ops i st _ hq) fun a ha => runOpsW_ok hO hC ops is a Q ha
theorem touchedW_ok {C : Ctx} (ρ : Operand → AV) (h : List AObj) (o : Oper) (Q : List Nat → Prop) (hq : touchedW C ρ h o Q) : Q (touched C ρ h o) := by
  unfold touchedW at hq
  unfold touched
  split at hq
  · rename_i ho; simp only [ho]; exact hq
  · rename_i ho; simp only [ho]; exact hq
  · rename_i ho; simp only [ho]; exact hq
  · rename_i op n1 n2 n3
    split
    · rename_i ho; exact absurd ho (n1 _ _ _)
    · rename_i ho; exact absurd ho (n2 _ _)
    · rename_i ho; exact absurd ho (n3 _ _ _)
    · split at hq
      · rename_i hc; simp only [hc]; exact frLW_ok h _ _ hq
      · rename_i hc; simp only [hc]; exact hq
theorem runDW_ok (hO : OkO P H O) {C : Ctx} (hC : C.P = P) (ops : Array Oper) (bf : Array Nat) : ∀ (is : List Nat) (pend : List (Nat × Nat)) (st : S) (Q : S → Prop), runDW C O ops bf is pend st Q →
    Ev (fun k => runD (atK P H C k) ops bf is pend st) Q
  | [], pend, st, Q, hq => Ev.of (fun _ => rfl) hq
  | i :: is, pend, st, Q, hq => by
    simp only [runDW] at hq
    simp only [runD]
    split at hq
    · exact hq.elim
    · rename_i o ho
      simp only [ho]
      have hstep : ∀ {R : S → Prop}, wantedA ops st.t o = some true → opAW C O (ev st.t) st.h o (fun p => spl (gsrc ops i) p.1 fun v => R (st.put o.dst v p.2)) → Ev (fun k => stepA (atK P H C k) ops i st) R := by
        intro R hw h
        unfold stepA
        simp only [ho, hw, if_true]
        refine Ev.map ?_
        obtain ⟨a, h1, h2⟩ := opAW_ok hO hC _ _ _ _ h
        exact ⟨a, h1, spl_ok h2⟩
      have ht : ∀ k, touched (atK P H C k) (ev st.t) st.h o = touched C (ev st.t) st.h o := fun k => by unfold touched atK; rw [hC]
      rcases wantedW_ok hq with ⟨hw, hq⟩ | ⟨hw, hq⟩
      · simp only [hw, if_true]
        split at hq
        · rename_i hwr
          simp only [hwr, if_true]
          split at hq
          · rename_i hp
            have hp2 : ∀ l : List Nat, (pend.all fun p => (bf.getD i 0).testBit p.1 || !l.contains p.2) = true := fun l => by
              rw [List.all_eq_true] at hp ⊢
              intro p hm
              rw [hp p hm]; rfl
            simp only [hp2, if_true]
            exact Ev.bind (hstep hw hq) fun a ha => runDW_ok hO hC ops bf is pend a Q ha
          · have hq := touchedW_ok _ _ _ _ hq
            obtain ⟨hp, hq⟩ := chk_iff.1 hq
            simp only [ht, hp, if_true]
            exact Ev.bind (hstep hw hq) fun a ha => runDW_ok hO hC ops bf is pend a Q ha
        · rename_i hwr
          simp only [hwr]
          exact Ev.bind (hstep hw hq) fun a ha => runDW_ok hO hC ops bf is _ a Q ha
      · simp only [hw]
        refine Ev.bind (R := fun a => runDW C O ops bf is pend a Q) ?_ fun a ha => runDW_ok hO hC ops bf is pend a Q ha
        refine Ev.of (fun k => ?_) hq
        unfold stepA
        simp only [ho, hw]
        rfl
theorem regionW_ok (hO : OkO P H O) {C : Ctx} (hC : C.P = P) (ops : Array Oper) (draw : Bool) (st : S) (Q : S → Prop) (hq : regionW C O ops draw st Q) :
    Ev (fun k => regionA (atK P H C k) ops draw st) Q := by
  unfold regionW at hq
  unfold regionA
  split at hq
  · obtain ⟨h1, hq⟩ := chk_iff.1 hq
    simp only [h1, if_true]
    exact runDW_ok hO hC ops _ _ _ _ _ hq
  · exact runOpsW_ok hO hC ops _ _ _ hq
end
end Go.Proofs.YthihinlamlamhaaE
