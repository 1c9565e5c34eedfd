/- Path mode is sound: code, loops, functions. -/
import Derived.Test.YthihinlamlamhaaEvW
namespace Go.Proofs.YthihinlamlamhaaE
open Go
set_option linter.unusedVariables false

theorem only_len : ∀ (i : Nat) (ks : List Nat) (t : List AV), (only i ks t).length = t.length
  | _, _, [] => by simp [only]
  | i, [], v :: t => by simp [only, only_len (i + 1) [] t]
  | i, k :: ks, v :: t => by
    simp only [only]
    split
    · simp [only_len (i + 1) ks t]
    · simp [only_len (i + 1) (k :: ks) t]
theorem only_idem : ∀ (i : Nat) (ks : List Nat) (t : List AV), only i ks (only i ks t) = only i ks t
  | _, _, [] => by simp [only]
  | i, [], v :: t => by simp [only, only_idem (i + 1) [] t]
  | i, k :: ks, v :: t => by
    simp only [only]
    split
    · rename_i h; simp only [only, if_pos h, only_idem (i + 1) ks t]
    · rename_i h; simp only [only, if_neg h, only_idem (i + 1) (k :: ks) t]
theorem only_mapL (f : Nat → Option Nat) : ∀ (i : Nat) (ks : List Nat) (t : List AV), only i ks (mapL f t) = mapL f (only i ks t)
  | _, _, [] => by simp [only, mapL]
  | i, [], v :: t => by simp [only, mapL, mapV, only_mapL f (i + 1) [] t]
  | i, k :: ks, v :: t => by
    simp only [only, mapL]
    split
    · simp only [mapL, only_mapL f (i + 1) ks t]
    · simp only [mapL, mapV, only_mapL f (i + 1) (k :: ks) t]
theorem spread_len : ∀ (n i : Nat) (ks : List Nat) (vs : List AV), (spread n i ks vs).length = n
  | 0, _, _, _ => by simp [spread]
  | n + 1, i, k :: ks, v :: vs => by
    simp only [spread]
    split
    · simp [spread_len n (i + 1) ks vs]
    · simp [spread_len n (i + 1) (k :: ks) (v :: vs)]
  | n + 1, i, [], vs => by simp [spread, spread_len n (i + 1) [] vs]
  | n + 1, i, k :: ks, [] => by simp [spread, spread_len n (i + 1) (k :: ks) []]
theorem spread_nil : ∀ (n i : Nat) (ks : List Nat), spread n i ks [] = List.replicate n .gone
  | 0, _, _ => by simp [spread]
  | n + 1, i, [] => by simp [spread, spread_nil n (i + 1) [], List.replicate_succ]
  | n + 1, i, k :: ks => by simp [spread, spread_nil n (i + 1) (k :: ks), List.replicate_succ]
theorem only_gone : ∀ (n i : Nat) (ks : List Nat), only i ks (List.replicate n .gone) = List.replicate n .gone
  | 0, _, _ => by simp [only]
  | n + 1, i, [] => by simp [only, only_gone n (i + 1) [], List.replicate_succ]
  | n + 1, i, k :: ks => by
    rw [List.replicate_succ]
    simp only [only]
    split
    · rw [only_gone n (i + 1) ks]
    · rw [only_gone n (i + 1) (k :: ks)]
theorem spread_vals : ∀ (t : List AV) (i : Nat) (ks : List Nat), spread t.length i ks (valsOf i ks t) = only i ks t
  | [], _, _ => by simp [spread, only]
  | v :: t, i, [] => by
    have := spread_vals t (i + 1) []
    simp only [valsOf] at this
    simp [spread, valsOf, only, this]
  | v :: t, i, k :: ks => by
    simp only [valsOf, only, List.length_cons]
    cases hk : Nat.beq i k with
    | true =>
      simp only [spread, hk, if_true, spread_vals t (i + 1) ks]
    | false =>
      simp only [Bool.false_eq_true, if_false]
      rw [← spread_vals t (i + 1) (k :: ks)]
      cases valsOf (i + 1) (k :: ks) t with
      | nil => simp only [spread]
      | cons a l => simp only [spread, hk]
theorem only_spread : ∀ (n i : Nat) (ks : List Nat) (vs : List AV), only i ks (spread n i ks vs) = spread n i ks vs
  | 0, _, _, _ => by simp [spread, only]
  | n + 1, i, [], vs => by simp [spread, only, only_spread n (i + 1) [] vs]
  | n + 1, i, k :: ks, [] => by rw [spread_nil, only_gone]
  | n + 1, i, k :: ks, v :: vs => by
    simp only [spread]
    cases hk : Nat.beq i k with
    | true => simp only [only, hk, if_true, only_spread n (i + 1) ks vs]
    | false => simp only [only, hk, Bool.false_eq_true, if_false, only_spread n (i + 1) (k :: ks) (v :: vs)]
theorem gcS_len (n0 : Nat) (l : List Nat) (st : S) : (gcS n0 l st).t.length = st.t.length := by simp [gcS, mapL_len, only_len]
theorem gcS_only (n0 : Nat) (l : List Nat) (st : S) : only 0 l (gcS n0 l st).t = (gcS n0 l st).t := by simp only [gcS, only_mapL, only_idem]
theorem stepA_len {C : Ctx} {ops : Array Oper} {i : Nat} {st st' : S} (h : stepA C ops i st = some st') : st'.t.length = st.t.length := by
  unfold stepA at h
  split at h
  · cases h; rfl
  · split at h
    · split at h
      · rw [Option.map_eq_some_iff] at h
        obtain ⟨p, _, rfl⟩ := h
        exact put_len
      · cases h; exact put_len
    · cases h
theorem runOps_len {C : Ctx} {ops : Array Oper} : ∀ (is : List Nat) {st st' : S}, runOps C ops is st = some st' → st'.t.length = st.t.length
  | [], st, st', h => by simp [runOps] at h; rw [h]
  | i :: is, st, st', h => by
    simp only [runOps] at h
    rw [Option.bind_eq_some_iff] at h
    obtain ⟨a, h1, h2⟩ := h
    rw [runOps_len is h2, stepA_len h1]
theorem runD_len {C : Ctx} {ops : Array Oper} {bf : Array Nat} : ∀ (is : List Nat) {pend : List (Nat × Nat)} {st st' : S}, runD C ops bf is pend st = some st' → st'.t.length = st.t.length
  | [], pend, st, st', h => by simp [runD] at h; rw [h]
  | i :: is, pend, st, st', h => by
    have key : ∀ pend', (stepA C ops i st).bind (runD C ops bf is pend') = some st' → st'.t.length = st.t.length := fun pend' h => by
      rw [Option.bind_eq_some_iff] at h
      obtain ⟨a, h1, h2⟩ := h
      rw [runD_len is h2, stepA_len h1]
    simp only [runD] at h
    split at h
    · cases h
    · split at h
      · split at h
        · split at h
          · split at h
            · exact key _ h
            · cases h
          · exact key _ h
        · exact key _ h
      · cases h
theorem regionA_len {C : Ctx} {ops : Array Oper} {draw : Bool} {st st' : S} (h : regionA C ops draw st = some st') : st'.t.length = st.t.length := by
  unfold regionA at h
  split at h
  · split at h
    · exact runD_len _ h
    · cases h
  · exact runOps_len _ h
theorem gcW_ok {n0 : Nat} {keep : List Nat} {st : S} {Q : S → Prop} (h : gcW n0 keep st Q) : Q (gcS n0 keep st) := by
  unfold gcW at h
  have h := frcL_ok _ _ h
  unfold gcW2 at h
  exact frcS_ok (frcNs_ok _ _ h)
theorem gcOW_ok {n0 : Nat} {l : Option (List Nat)} {st : S} {Q : S → Prop} (h : gcOW n0 l st Q) : Q (gcO n0 l st) := by
  cases l with
  | none => exact h
  | some l => exact gcW_ok h
theorem gcO_len (n0 : Nat) (l : Option (List Nat)) (st : S) : (gcO n0 l st).t.length = st.t.length := by
  cases l with
  | none => rfl
  | some l => exact gcS_len _ _ _

def CanonX (C : Ctx) (ex : Ex) (st : S) : Prop := ∀ l, keepOf C ex = some l → only 0 l st.t = st.t
def iter1 (body : S → Option (Ex × S)) (cl : S → S) (n : Nat) (st : S) : Option (Ex × S) :=
  match body st with
  | some (.nrm, st') => iter body cl n st'
  | r => r
theorem iter_succ (body : S → Option (Ex × S)) (cl : S → S) (n : Nat) (st : S) : iter body cl (n + 1) st = iter1 body cl n (cl st) := rfl

section
variable (P : Program) (H : Hints) (C : Ctx) (n : Nat)
def LoopOk (c : Code) (l : LW) : Prop := ∀ vals h Q, l vals h Q → ∃ ex ks vals' h', ex ≠ .nrm ∧ keepOf C ex = some ks ∧
  (∃ K, ∀ k m, K ≤ k → K ≤ m → iter1 (exec (atK P H C k) c) (gcS C.n0 (C.keep (firstR c))) m ⟨spread n 0 (C.keep (firstR c)) vals, h⟩ = some (ex, ⟨spread n 0 ks vals', h'⟩)) ∧ Q ex vals' h'
end
section
variable {P : Program} {H : Hints} {O : Orc} {C : Ctx} {n : Nat} {L : Nat → LW}
theorem execW_ok (hO : OkO P H O) (hC : C.P = P) : ∀ (c : Code), (∀ c' ∈ loops c, LoopOk P H C n c' (L (firstR c'))) → ∀ (st : S), st.t.length = n → ∀ (Q : Ex → S → Prop), execW C O L c st Q →
    Ev (fun k => exec (atK P H C k) c st) fun r => CanonX C r.1 r.2 ∧ r.2.t.length = n ∧ Q r.1 r.2
  | .skip, hL, st, hn, Q, hq => Ev.of (fun _ => rfl) ⟨fun l h => by simp [keepOf] at h, hn, hq⟩
  | .region id ops draw, hL, st, hn, Q, hq => by
    simp only [execW] at hq
    simp only [exec]
    obtain ⟨a, ⟨K, e⟩, h2⟩ := regionW_ok hO hC ops draw st _ hq
    exact ⟨(.nrm, a), ⟨K, fun k hk => by have e := e k hk; simp only at e; simp only [e, Option.map_some]⟩, fun l h => by simp [keepOf] at h, by rw [← hn]; exact regionA_len (e K (Nat.le_refl _)), frcS_ok h2⟩
  | .seq x y, hL, st, hn, Q, hq => by
    simp only [execW] at hq
    simp only [exec]
    obtain ⟨⟨ex, st1⟩, ⟨K1, e1⟩, hc, hl, h2⟩ := execW_ok hO hC x (fun c' h => hL c' (by simp [loops, h])) st hn _ hq
    cases ex with
    | nrm =>
      obtain ⟨r, ⟨K2, e2⟩, h3⟩ := execW_ok hO hC y (fun c' h => hL c' (by simp [loops, h])) st1 hl _ h2
      exact ⟨r, ⟨max K1 K2, fun k hk => by have e1 := e1 k (by omega); have e2 := e2 k (by omega); simp only at e1 e2; simp only [e1, e2]⟩, h3⟩
    | exit j => exact ⟨_, ⟨K1, fun k hk => by have e1 := e1 k hk; simp only at e1; simp only [e1]⟩, hc, hl, h2⟩
    | ret => exact ⟨_, ⟨K1, fun k hk => by have e1 := e1 k hk; simp only at e1; simp only [e1]⟩, hc, hl, h2⟩
  | .cond c x y, hL, st, hn, Q, hq => by
    simp only [execW] at hq
    simp only [exec]
    split at hq
    · rename_i b hb
      simp only [hb]
      rcases br_iff.1 hq with ⟨rfl, hq⟩ | ⟨rfl, hq⟩
      · simp only [if_true]
        exact execW_ok hO hC x (fun c' h => hL c' (by simp [loops, h])) st hn _ hq
      · simp only [Bool.false_eq_true, if_false]
        exact execW_ok hO hC y (fun c' h => hL c' (by simp [loops, h])) st hn _ hq
    · exact hq.elim
  | .block id c, hL, st, hn, Q, hq => by
    simp only [execW] at hq
    simp only [exec]
    obtain ⟨⟨ex, st1⟩, ⟨K1, e1⟩, hc, hl, h2⟩ := execW_ok hO hC c (fun c' h => hL c' (by simpa [loops] using h)) st hn _ hq
    cases ex with
    | nrm => exact ⟨_, ⟨K1, fun k hk => by have e1 := e1 k hk; simp only at e1; simp only [e1]⟩, hc, hl, h2⟩
    | exit j =>
      simp only at h2
      split at h2
      · rename_i hj
        have hj := Nat.eq_of_beq_eq_true hj
        exact ⟨(.nrm, st1), ⟨K1, fun k hk => by have e1 := e1 k hk; simp only at e1; simp only [e1, hj, if_true]⟩, fun l h => by simp [keepOf] at h, hl, h2⟩
      · rename_i hj
        have hj := Nat.ne_of_beq_eq_false hj
        exact ⟨(.exit j, st1), ⟨K1, fun k hk => by have e1 := e1 k hk; simp only at e1; simp only [e1, hj, if_false]⟩, hc, hl, h2⟩
    | ret => exact ⟨_, ⟨K1, fun k hk => by have e1 := e1 k hk; simp only at e1; simp only [e1]⟩, hc, hl, h2⟩
  | .loop c, hL, st, hn, Q, hq => by
    simp only [execW] at hq
    simp only [exec]
    have hq := gcW_ok hq
    obtain ⟨ex, ks, vals', h', hne, hk, ⟨K, e⟩, hb⟩ := hL c (by simp [loops]) _ _ _ hq
    have es : (⟨spread n 0 (C.keep (firstR c)) (valsOf 0 (C.keep (firstR c)) (gcS C.n0 (C.keep (firstR c)) st).t), (gcS C.n0 (C.keep (firstR c)) st).h⟩ : S) = gcS C.n0 (C.keep (firstR c)) st := by
      have h1 := spread_vals (gcS C.n0 (C.keep (firstR c)) st).t 0 (C.keep (firstR c))
      rw [gcS_len, hn, gcS_only] at h1
      rw [h1]
    rw [es] at e
    unfold backL at hb
    rw [hk] at hb
    rw [hn] at hb
    refine ⟨(ex, ⟨spread n 0 ks vals', h'⟩), ⟨K + 1, fun k hk => ?_⟩, fun l hl => ?_, spread_len _ _ _ _, hb⟩
    · obtain ⟨m, rfl⟩ : ∃ m, k = m + 1 := ⟨k - 1, by omega⟩
      show iter _ _ (m + 1) st = _
      rw [iter_succ]
      exact e (m + 1) m (by omega) (by omega)
    · simp only at hl
      rw [hk] at hl
      cases hl
      exact only_spread _ _ _ _
  | .exit id, hL, st, hn, Q, hq => by
    simp only [execW] at hq
    simp only [exec]
    refine Ev.of (a := (.exit id, gcO C.n0 (C.keepX id) st)) (fun _ => rfl) ⟨fun l h => ?_, by rw [gcO_len]; exact hn, gcOW_ok hq⟩
    simp only [keepOf] at h
    simp only [h, gcO]
    exact gcS_only _ _ _
  | .ret, hL, st, hn, Q, hq => by
    simp only [execW] at hq
    simp only [exec]
    refine Ev.of (a := (.ret, gcO C.n0 C.keepR st)) (fun _ => rfl) ⟨fun l h => ?_, by rw [gcO_len]; exact hn, gcOW_ok hq⟩
    simp only [keepOf] at h
    simp only [h, gcO]
    exact gcS_only _ _ _
  | .rangeFunc _ _ _ _, _, _, _, _, hq => by simp [execW] at hq
  | .scope _, _, _, _, _, hq => by simp [execW] at hq
  | .label _, _, _, _, _, hq => by simp [execW] at hq
  | .goto _, _, _, _, _, hq => by simp [execW] at hq
  | .refuse _, _, _, _, _, hq => by simp [execW] at hq

/-- What must stand behind a round. -/
def stepQ (l : LW) (μ : List AV → List AObj → Nat) (vals : List AV) (h : List AObj) (Q : Ex → List AV → List AObj → Prop) (ex : Ex) (vals' : List AV) (h' : List AObj) : Prop :=
  match ex with
  | .nrm => μ vals' h' < μ vals h ∧ l vals' h' Q
  | .exit id => Q (.exit id) vals' h'
  | .ret => Q .ret vals' h'
theorem loop_rule (hO : OkO P H O) (hC : C.P = P) {c : Code} (l : LW) (μ : List AV → List AObj → Nat) (hL : ∀ c' ∈ loops c, LoopOk P H C n c' (L (firstR c')))
    (step : ∀ vals h Q, l vals h Q → bodyW C O L n c vals h (stepQ l μ vals h Q)) : LoopOk P H C n c l := by
  have main : ∀ N vals h Q, μ vals h < N → l vals h Q → ∃ ex ks vals' h', ex ≠ .nrm ∧ keepOf C ex = some ks ∧
      (∃ K, ∀ k m, K ≤ k → K ≤ m → iter1 (exec (atK P H C k) c) (gcS C.n0 (C.keep (firstR c))) m ⟨spread n 0 (C.keep (firstR c)) vals, h⟩ = some (ex, ⟨spread n 0 ks vals', h'⟩)) ∧ Q ex vals' h' := by
    intro N
    induction N with
    | zero => intro vals h Q hm; omega
    | succ N ih =>
      intro vals h Q hm hl
      have hb := step vals h Q hl
      unfold bodyW at hb
      obtain ⟨⟨ex, st'⟩, ⟨K1, e1⟩, hc, hlen, hb⟩ := execW_ok hO hC c hL _ (spread_len _ _ _ _) _ hb
      simp only at hc hlen hb
      have fin : ∀ ks, keepOf C ex = some ks → ex ≠ .nrm → Q ex (valsOf 0 ks st'.t) st'.h → ∃ ex ks vals' h', ex ≠ .nrm ∧ keepOf C ex = some ks ∧
          (∃ K, ∀ k m, K ≤ k → K ≤ m → iter1 (exec (atK P H C k) c) (gcS C.n0 (C.keep (firstR c))) m ⟨spread n 0 (C.keep (firstR c)) vals, h⟩ = some (ex, ⟨spread n 0 ks vals', h'⟩)) ∧ Q ex vals' h' := by
        intro ks hk hne hq
        refine ⟨ex, ks, _, _, hne, hk, ⟨K1, fun k m hk1 hm1 => ?_⟩, hq⟩
        have h1 := spread_vals st'.t 0 ks
        rw [hlen, hc ks hk] at h1
        rw [h1]
        have e1 := e1 k hk1
        simp only at e1
        unfold iter1
        rw [e1]
        cases ex with
        | nrm => exact absurd rfl hne
        | exit id => rfl
        | ret => rfl
      cases ex with
      | nrm =>
        have hb := gcW_ok hb
        obtain ⟨hlt, hl2⟩ := hb
        obtain ⟨ex2, ks, vals2, h2, hne, hk, ⟨K2, e2⟩, hq⟩ := ih _ _ Q (by omega) hl2
        refine ⟨ex2, ks, vals2, h2, hne, hk, ⟨max K1 (K2 + 1), fun k m hk1 hm1 => ?_⟩, hq⟩
        have es : (⟨spread n 0 (C.keep (firstR c)) (valsOf 0 (C.keep (firstR c)) (gcS C.n0 (C.keep (firstR c)) st').t), (gcS C.n0 (C.keep (firstR c)) st').h⟩ : S) = gcS C.n0 (C.keep (firstR c)) st' := by
          have h1 := spread_vals (gcS C.n0 (C.keep (firstR c)) st').t 0 (C.keep (firstR c))
          rw [gcS_len, hlen, gcS_only] at h1
          rw [h1]
        rw [es] at e2
        have e1 := e1 k (by omega)
        simp only at e1
        unfold iter1
        rw [e1]
        obtain ⟨m', rfl⟩ : ∃ m', m = m' + 1 := ⟨m - 1, by omega⟩
        show iter _ _ (m' + 1) st' = _
        rw [iter_succ]
        exact e2 k m' (by omega) (by omega)
      | exit id =>
        simp only at hb
        split at hb
        · rename_i l' hk; exact fin l' hk (by simp) hb
        · exact hb.elim
      | ret =>
        simp only at hb
        split at hb
        · rename_i l' hk; exact fin l' hk (by simp) hb
        · exact hb.elim
  exact fun vals h Q hl => main _ vals h Q (Nat.lt_succ_self _) hl

theorem finishW_ok {n0 : Nat} {frz : Option (List (List (List K)))} {h : List AObj} {v : AV} {Q : AV × List AObj → Prop} (hq : finishW n0 frz h v Q) : Q (finish n0 frz h v) := by
  unfold finishW at hq
  unfold finish
  split at hq
  · have h1 := frcH_ok _ _ (frcV_ok _ _ (frVW_ok h v _ hq))
    unfold finW2 at h1
    exact frcH_ok _ _ (frcV_ok _ _ (frcNs_ok _ _ h1))
  · unfold finW2 at hq
    exact frcH_ok _ _ (frcV_ok _ _ (frcNs_ok _ _ hq))
/-- **What path mode says of a function, the interpreter answers.** -/
theorem funW_ok (hO : OkO P H O) {f : FuncId} {args : List AV} {h : List AObj} {Q : AV × List AObj → Prop}
    (hL : ∀ fn c, P.funcs[f]? = some fn → fn.body = some c → ∀ c' ∈ loops c, LoopOk P H (ctxW P H f h.length) (args ++ List.replicate (fn.ntmps - args.length) AV.undef).length c' (L (firstR c')))
    (hq : funW P H O L f args h Q) : Ev (fun k => run P H k f args h) Q := by
  unfold funW at hq
  split at hq
  · rename_i fn hf
    split at hq
    · rename_i c hb
      obtain ⟨⟨ex, st⟩, ⟨K, e⟩, _, _, h2⟩ := execW_ok hO rfl c (hL fn c hf hb) _ rfl _ hq
      simp only at h2
      have key : ex = .nrm ∨ ex = .ret → (optW (resultsA P st fn.results.toList) fun v => finishW h.length (H.frz f) st.h v Q) → Ev (fun k => run P H k f args h) Q := fun hex h2 => by
        obtain ⟨v, h3, h4⟩ := optW_ok _ _ h2
        refine ⟨_, ⟨K + 1, fun k hk => ?_⟩, finishW_ok h4⟩
        obtain ⟨m, rfl⟩ : ∃ m, k = m + 1 := ⟨k - 1, by omega⟩
        have e := e m (by omega)
        simp only [atK, ctxW] at e
        simp only [run, hf, hb, e]
        rcases hex with rfl | rfl <;> simp only [h3, Option.map_some]
      cases ex with
      | nrm => exact key (.inl rfl) h2
      | exit id => exact h2.elim
      | ret => exact key (.inr rfl) h2
    · exact hq.elim
  · exact hq.elim
end
end Go.Proofs.YthihinlamlamhaaE
