/- Code and functions: what 'run' answers, the calls answer. -/
import Derived.Test.YthihinlamlamhaaEvS
import Derived.LoopN
namespace Go.Proofs.YthihinlamlamhaaE
open Go

theorem only_ok {E : En} : ∀ (i : Nat) (ks : List Nat) (t : List AV) (cs : List Value), VL E t cs → VL E (only i ks t) cs
  | _, _, [], [], _ => by simp only [only, VL]
  | _, _, [], _ :: _, h => by simp [VL] at h
  | _, _, _ :: _, [], h => by simp [VL] at h
  | i, [], v :: t, c :: cs, h => by
    simp only [VL] at h
    simp only [only, VL]
    exact ⟨by simp only [VR], only_ok (i + 1) [] t cs h.2⟩
  | i, k :: ks, v :: t, c :: cs, h => by
    simp only [VL] at h
    simp only [only]
    split
    · simp only [VL]; exact ⟨h.1, only_ok (i + 1) ks t cs h.2⟩
    · simp only [VL]; exact ⟨by simp only [VR], only_ok (i + 1) (k :: ks) t cs h.2⟩

/-- The objects that were given keep their numbers. -/
theorem gc_ext {E0 E : En} (x : Ext E0 E) (s : Sim E) {σ l : List Nat} (hσ : σ = List.range E0.h.length ++ l) (hn : σ.Nodup) : Sim (reE E σ E.X) ∧ Ext E0 (reE E σ E.X) ∧ Mp (idx · σ) E (reE E σ E.X) := by
  obtain ⟨s1, m, q⟩ := reix_ok s hn E.X (fun _ h => h.2) (fun i b c _ h => s.nx i b c h) s.xlt
  refine ⟨s1, ⟨fun o ob ho => ?_, fun b hb => ?_, fun j b c hj => ?_, x.sz, x.ex⟩, m⟩
  · have hlt : o < E0.h.length := (List.getElem?_eq_some_iff.1 ho).1
    obtain ⟨ob', h1, hd⟩ := x.cls o ob ho
    have hso : σ[o]? = some o := by rw [hσ, List.getElem?_append, if_pos (by simpa using hlt), List.getElem?_range hlt]
    obtain ⟨k1, k2⟩ := m.map o o ob' (idx_of hn hso) h1
    refine ⟨_, k1, ?_⟩
    rcases hd with rfl | ⟨d1, d2, d3⟩
    · exact .inl rfl
    · refine .inr ⟨by rw [mapO_cls]; exact d1, fun p hp => k2 p (d2 p hp), fun md e sh rs md' e' sh' rs' e1 e2 => ?_⟩
      subst e1
      obtain ⟨md1, e1', rs1, rfl⟩ := cls_arr d1
      have l1 := d3 _ _ _ _ _ _ _ _ rfl rfl
      have l2 := mapO_len rfl e2
      omega
  · obtain ⟨k1, k2⟩ := x.st b hb
    exact ⟨q b k1, k2⟩
  · have hj : (σ[j]?).bind E.ι = some (b, c) := hj
    rw [Option.bind_eq_some_iff] at hj
    obtain ⟨i, _, h2⟩ := hj
    exact x.rng i b c h2

theorem gcS_ok {E0 : En} {st : S} {a : Act} {w : World} (hi : Inv E0 st a w) (keep : List Nat) : Inv E0 (gcS E0.h.length keep st) a w := by
  obtain ⟨ι, s, ht, x, wd, hd⟩ := hi
  obtain ⟨l, hl⟩ := collect_prefix st.h 1000 (rootsN st.h E0.h.length ++ refsL (only 0 keep st.t)) (List.range E0.h.length)
  have hn : (collect st.h 1000 (rootsN st.h E0.h.length ++ refsL (only 0 keep st.t)) (List.range E0.h.length)).Nodup := collect_nodup _ _ _ _ List.nodup_range
  obtain ⟨s1, x1, m⟩ := gc_ext x s hl hn
  exact ⟨_, s1, VL.map m _ _ (only_ok 0 keep _ _ ht), x1, wd, hd⟩

theorem gcO_ok {E0 : En} {st : S} {a : Act} {w : World} {n : Nat} (hn : n = E0.h.length) (hi : Inv E0 st a w) : ∀ l, Inv E0 (gcO n l st) a w
  | none => hi
  | some l => by rw [hn]; exact gcS_ok hi l

def Ex.to : Ex → Exit
  | .nrm => .normal
  | .exit id => .exit id
  | .ret => .ret

section
variable {C : Ctx} {E0 : En}

theorem iter_ok (hn0 : C.n0 = E0.h.length) {c : Code} (body : S → Option (Ex × S)) (keep : List Nat)
    (hb : ∀ {st : S} {ex : Ex} {st' : S} {a : Act} {w : World} {Q : Exit → Act → World → Prop}, body st = some (ex, st') → Inv E0 st a w → (∀ a' w', Inv E0 st' a' w' → Q ex.to a' w') → c.wp C.P Q a w) :
    ∀ (n : Nat) {st : S} {ex : Ex} {st' : S} {a : Act} {w : World} {Q : Exit → Act → World → Prop}, iter body (gcS C.n0 keep) n st = some (ex, st') → Inv E0 st a w → (∀ a' w', Inv E0 st' a' w' → Q ex.to a' w') → Code.rounds C.P c Q n a w
  | 0, _, _, _, _, _, _, h, _, _ => by simp [iter] at h
  | n + 1, st, ex, st', a, w, Q, h, hi, hQ => by
    rw [rounds_succ]
    simp only [iter] at h
    have hg : Inv E0 (gcS C.n0 keep st) a w := by rw [hn0]; exact gcS_ok hi keep
    split at h
    · rename_i st1 h1
      exact hb h1 hg fun a' w' hi' => iter_ok hn0 body keep hb n h hi' hQ
    · rename_i hne
      cases hb1 : body (gcS C.n0 keep st) with
      | none => rw [hb1] at h; cases h
      | some r =>
        rw [hb1] at h; cases h
        refine hb hb1 hg fun a' w' hi' => ?_
        cases ex with
        | nrm => exact absurd hb1 (hne st')
        | exit id => exact hQ a' w' hi'
        | ret => exact hQ a' w' hi'

theorem exec_ok (hP : okProg C.P = true) (hF : SoundF C.P C.F) (hn0 : C.n0 = E0.h.length) : ∀ (c : Code) {st : S} {ex : Ex} {st' : S} {a : Act} {w : World} {Q : Exit → Act → World → Prop}, exec C c st = some (ex, st') → Inv E0 st a w →
    (∀ a' w', Inv E0 st' a' w' → Q ex.to a' w') → c.wp C.P Q a w
  | .skip, st, ex, st', a, w, Q, h, hi, hQ => by simp [exec] at h; obtain ⟨rfl, rfl⟩ := h; exact wp_skip (hQ a w hi)
  | .region id ops draw, st, ex, st', a, w, Q, h, hi, hQ => by
    simp only [exec] at h
    rw [Option.map_eq_some_iff] at h
    obtain ⟨st1, h1, h2⟩ := h
    cases h2
    exact region_ok hP hF hi h1 hQ
  | .seq x y, st, ex, st', a, w, Q, h, hi, hQ => by
    simp only [exec] at h
    refine wp_seq ?_
    split at h
    · rename_i st1 h1
      exact exec_ok hP hF hn0 x h1 hi fun a' w' hi' => exec_ok hP hF hn0 y h hi' hQ
    · rename_i hne
      cases h1 : exec C x st with
      | none => rw [h1] at h; cases h
      | some r =>
        rw [h1] at h; cases h
        refine exec_ok hP hF hn0 x h1 hi fun a' w' hi' => ?_
        cases ex with
        | nrm => exact absurd h1 (hne st')
        | exit id => exact hQ a' w' hi'
        | ret => exact hQ a' w' hi'
  | .cond c x y, st, ex, st', a, w, Q, h, hi, hQ => by
    simp only [exec] at h
    split at h
    · rename_i b hb
      have hc : a.eval c = .bool b := by
        obtain ⟨ι, _, ht, _⟩ := hi
        have := ev_ok ht c
        rw [hb] at this
        simpa only [VR] using this
      refine wp_cond hc ?_
      split at h
      · rename_i hbt
        rw [if_pos hbt]
        exact exec_ok hP hF hn0 x h hi hQ
      · rename_i hbf
        rw [if_neg hbf]
        exact exec_ok hP hF hn0 y h hi hQ
    · cases h
  | .block id c, st, ex, st', a, w, Q, h, hi, hQ => by
    simp only [exec] at h
    refine wp_block ?_
    split at h
    · rename_i j st1 h1
      refine exec_ok hP hF hn0 c h1 hi fun a' w' hi' => ?_
      show (if j = id then _ else _)
      split at h
      · rename_i hj; cases h; rw [if_pos hj]; exact hQ a' w' hi'
      · rename_i hj; cases h; rw [if_neg hj]; exact hQ a' w' hi'
    · rename_i hne
      cases h1 : exec C c st with
      | none => rw [h1] at h; cases h
      | some r =>
        rw [h1] at h; cases h
        refine exec_ok hP hF hn0 c h1 hi fun a' w' hi' => ?_
        cases ex with
        | nrm => exact hQ a' w' hi'
        | exit id' => exact absurd h1 (hne id' st')
        | ret => exact hQ a' w' hi'
  | .loop c, st, ex, st', a, w, Q, h, hi, hQ => by
    simp only [exec] at h
    exact wp_loop_rounds C.lk (iter_ok hn0 (exec C c) _ (fun h1 hi1 hQ1 => exec_ok hP hF hn0 c h1 hi1 hQ1) C.lk h hi hQ)
  | .exit id, st, ex, st', a, w, Q, h, hi, hQ => by simp [exec] at h; obtain ⟨rfl, rfl⟩ := h; exact wp_exit (hQ a w (gcO_ok hn0 hi _))
  | .ret, st, ex, st', a, w, Q, h, hi, hQ => by simp [exec] at h; obtain ⟨rfl, rfl⟩ := h; exact wp_ret (hQ a w (gcO_ok hn0 hi _))
  | .rangeFunc _ _ _ _, _, _, _, _, _, _, h, _, _ => by simp [exec] at h
  | .scope _, _, _, _, _, _, _, h, _, _ => by simp [exec] at h
  | .label _, _, _, _, _, _, _, h, _, _ => by simp [exec] at h
  | .goto _, _, _, _, _, _, _, h, _, _ => by simp [exec] at h
  | .refuse _, _, _, _, _, _, _, h, _, _ => by simp [exec] at h
end

section
variable {P : Program} {E : En}

theorem res_ok {st : S} {a : Array Value} (s : Sim E) (hh : E.h = st.h) (ht : VL E st.t a.toList) {r : ResultVar} {v : AV} (h : resA P st r = some v) :
    ∃ cv, (match r with | .tmp t => (pure (a.getD t undef) : Sem Value) | .cell p t => do loadVar t (← asAddr (a.getD p undef))).run P E.w = .ok cv E.w ∧ VR E v cv := by
  have hget : ∀ i, VR E (st.t.getD i .undef) (a.getD i undef) := fun i => by
    have := ev_ok (a := ⟨a, []⟩) ht (.tmp i)
    exact this
  cases r with
  | tmp t =>
    simp only [resA] at h
    cases h
    exact ⟨_, rfl, hget t⟩
  | cell p t =>
    simp only [resA] at h
    rw [← hh] at h
    obtain ⟨cv, hr, hv⟩ := loadA_ok s (hget p) h
    refine ⟨cv, ?_, hv⟩
    simp only [Sem.run_bind]
    simp only [Instr.loadAt, Sem.run_bind] at hr
    cases hp : a.getD p undef <;> rw [hp] at hr <;> try (simp [Instr.sureAddr] at hr; done)
    rename_i q
    cases q with
    | none => simp [Instr.sureAddr] at hr
    | some q => simpa [Instr.sureAddr, asAddr] using hr

def resM (a : Array Value) : ResultVar → Sem Value
  | .tmp t => pure (a.getD t undef)
  | .cell p t => do loadVar t (← asAddr (a.getD p undef))
theorem results_ok {st : S} {fn : Func} {a : Array Value} (s : Sim E) (hh : E.h = st.h) (ht : VL E st.t a.toList) {v : AV} (h : resultsA P st fn.results.toList = some v) : ∃ cv, (results fn a).run P E.w = .ok cv E.w ∧ VR E v cv := by
  have hall : ∀ (l : List ResultVar) (vs : List AV), l.mapM (resA P st) = some vs → ∃ cs : List Value, (l.mapM (resM a)).run P E.w = .ok cs E.w ∧ VL E vs cs := by
    intro l
    induction l with
    | nil => intro vs hv; simp at hv; subst hv; exact ⟨[], by simp, by simp [VL]⟩
    | cons r l ih =>
      intro vs hv
      simp only [List.mapM_cons, Option.bind_eq_bind, Option.pure_def] at hv
      rw [Option.bind_eq_some_iff] at hv
      obtain ⟨u, h1, hv⟩ := hv
      rw [Option.bind_eq_some_iff] at hv
      obtain ⟨us, h2, hv⟩ := hv
      cases hv
      obtain ⟨cv, hr, hu⟩ := res_ok (P := P) s hh ht h1
      have hr : (resM a r).run P E.w = .ok cv E.w := by cases r <;> exact hr
      obtain ⟨cs, hrs, hus⟩ := ih us h2
      refine ⟨cv :: cs, ?_, by simp only [VL]; exact ⟨hu, hus⟩⟩
      simp only [List.mapM_cons, Sem.run_bind, hr, Result.andThen_ok, hrs, Sem.run_pure]
  have hform : ∃ vs, fn.results.toList.mapM (resA P st) = some vs ∧ v = (match vs with | [u] => u | _ => .tup vs) := by
    unfold resultsA at h
    split at h
    · rename_i r hr
      exact ⟨[v], by rw [hr]; simp [h], rfl⟩
    · rename_i hne
      rw [Option.map_eq_some_iff] at h
      obtain ⟨vs, h1, rfl⟩ := h
      refine ⟨vs, h1, ?_⟩
      have hlen : vs.length = fn.results.toList.length := by
        have : ∀ (l : List ResultVar) (vs : List AV), l.mapM (resA P st) = some vs → vs.length = l.length := by
          intro l
          induction l with
          | nil => intro vs hv; simp at hv; subst hv; rfl
          | cons r l ih =>
            intro vs hv
            simp only [List.mapM_cons, Option.bind_eq_bind, Option.pure_def] at hv
            rw [Option.bind_eq_some_iff] at hv
            obtain ⟨u, _, hv⟩ := hv
            rw [Option.bind_eq_some_iff] at hv
            obtain ⟨us, h2, hv⟩ := hv
            cases hv
            simp [ih us h2]
        exact this _ _ h1
      match vs, hlen with
      | [], _ => rfl
      | [u], hlen =>
        exfalso
        match hr : fn.results.toList, hlen with
        | [r], _ => exact hne r hr
        | [], h => simp at h
        | _ :: _ :: _, h => simp at h
      | _ :: _ :: _, _ => rfl
  obtain ⟨vs, h1, rfl⟩ := hform
  obtain ⟨cs, hr, hvs⟩ := hall _ vs h1
  refine ⟨if h : cs.toArray.size = 1 then cs.toArray[0] else .tuple cs.toArray, ?_, ?_⟩
  · unfold results
    rw [Array.mapM_eq_mapM_toList]
    have hfun : (fun (r : ResultVar) => (match r with | .tmp t => pure (a.getD t undef) | .cell p t => do loadVar t (← asAddr (a.getD p undef)) : Sem Value)) = resM a := by funext r; cases r <;> rfl
    have hr2 : (List.mapM (fun (r : ResultVar) => (match r with | .tmp t => pure (a.getD t undef) | .cell p t => do loadVar t (← asAddr (a.getD p undef)) : Sem Value)) fn.results.toList).run P E.w = .ok cs E.w := by rw [hfun]; exact hr
    simp only [Sem.run_bind, Sem.run_map]
    erw [hr2]
    rfl
  · match vs, cs, hvs with
    | [u], [c], hvs => simp only [VL] at hvs; exact hvs.1
    | [], [], _ => simp [VR, VL]
    | u :: u' :: us, c :: c' :: cs, hvs =>
      rw [dif_neg (by simp)]
      simp only [VR]
      exact ⟨_, rfl, hvs⟩
    | [], _ :: _, hvs => simp [VL] at hvs
    | [_], [], hvs => simp [VL] at hvs
    | [_], _ :: _ :: _, hvs => simp [VL] at hvs
    | _ :: _ :: _, [], hvs => simp [VL] at hvs
    | _ :: _ :: _, [_], hvs => simp [VL] at hvs

theorem nl1_ok {sh : List K} {v : AV} {cv : Value} (h : VR E v cv) : VR E (nl1 sh v) cv := by
  unfold nl1
  split
  · split
    · exact h
    · simp only [VR] at h ⊢
      exact ⟨none, 0, by simpa using h, by simp, by simp [maxLen], fun _ => ⟨rfl, rfl⟩, fun h => by simp at h, .inl trivial⟩
  · exact h
theorem nlL_ok : ∀ {hs : List (List K)} {l : List AV} {cs : List Value}, VL E l cs → VL E (nlL hs l) cs
  | [], l, cs, h => by cases l <;> simpa only [nlL] using h
  | sh :: hs, [], cs, h => by simpa only [nlL] using h
  | sh :: hs, v :: l, c :: cs, h => by simp only [VL] at h; simp only [nlL, VL]; exact ⟨nl1_ok h.1, nlL_ok h.2⟩
  | sh :: hs, v :: l, [], h => by simp [VL] at h
theorem nlC_ok {hs : List (List K)} {v : AV} {cv : Value} (h : VR E v cv) : VR E (nlC hs v) cv := by
  unfold nlC
  split
  · simp only [VR] at h ⊢
    obtain ⟨a, h1, h2, h3⟩ := h
    exact ⟨a, h1, nlL_ok h2, h3⟩
  · exact nl1_ok h
theorem nlT_ok : ∀ {hss : List (List (List K))} {l : List AV} {cs : List Value}, VL E l cs → VL E (nlT hss l) cs
  | [], l, cs, h => by cases l <;> simpa only [nlT] using h
  | sh :: hs, [], cs, h => by simpa only [nlT] using h
  | sh :: hs, v :: l, c :: cs, h => by simp only [VL] at h; simp only [nlT, VL]; exact ⟨nlC_ok h.1, nlT_ok h.2⟩
  | sh :: hs, v :: l, [], h => by simp [VL] at h
theorem nlV_ok {hss : List (List (List K))} {v : AV} {cv : Value} (h : VR E v cv) : VR E (nlV hss v) cv := by
  unfold nlV
  split
  · simp only [VR] at h ⊢
    obtain ⟨a, h1, h2⟩ := h
    exact ⟨a, h1, nlT_ok h2⟩
  · exact nlC_ok h
theorem finish_ok {E0 : En} {frz : Option (List (List (List K)))} {v v' : AV} {h' : List AObj} {cv : Value} (s : Sim E) (x : Ext E0 E) (hv : VR E v cv) (h : finish E0.h.length frz E.h v = (v', h')) :
    ∃ ι', Sim ⟨ι', h', E.w, E.X⟩ ∧ Ext E0 ⟨ι', h', E.w, E.X⟩ ∧ VR ⟨ι', h', E.w, E.X⟩ v' cv := by
  have key : ∀ (E1 : En) (u : AV), E1.w = E.w → E1.X = E.X → Sim E1 → Ext E0 E1 → VR E1 u cv → (v', h') = (mapV (idx · (collect E1.h 1000 (rootsN E1.h E0.h.length ++ refsV u) (List.range E0.h.length))) u, (collect E1.h 1000 (rootsN E1.h E0.h.length ++ refsV u) (List.range E0.h.length)).map fun i => mapO (idx · (collect E1.h 1000 (rootsN E1.h E0.h.length ++ refsV u) (List.range E0.h.length))) (E1.h.getD i .dead)) →
      ∃ ι', Sim ⟨ι', h', E.w, E.X⟩ ∧ Ext E0 ⟨ι', h', E.w, E.X⟩ ∧ VR ⟨ι', h', E.w, E.X⟩ v' cv := by
    intro E1 u hw hX s1 x1 hu he
    obtain ⟨l, hl⟩ := collect_prefix E1.h 1000 (rootsN E1.h E0.h.length ++ refsV u) (List.range E0.h.length)
    have hn : (collect E1.h 1000 (rootsN E1.h E0.h.length ++ refsV u) (List.range E0.h.length)).Nodup := collect_nodup _ _ _ _ List.nodup_range
    obtain ⟨s2, x2, m⟩ := gc_ext x1 s1 hl hn
    have hv2 := VR.map m _ _ hu
    cases he
    unfold reE at s2 x2 hv2
    rw [hw, hX] at s2 x2 hv2
    exact ⟨_, s2, x2, hv2⟩
  unfold finish at h
  cases frz with
  | none => exact key E v rfl rfl s x hv (by rw [← h])
  | some hss =>
    obtain ⟨s1, x1⟩ := mark_ok s (slsV v)
    exact key (mkE E (slsV v)) (nlV hss (frV E.h v)) rfl rfl s1 (x.trans x1) (nlV_ok (fr_ok s v cv hv fun _ h => h)) (by rw [← h]; rfl)

/-- **What the interpreter answers, the calls answer.** -/
theorem run_ok (hP : okProg P = true) (H : Hints) : ∀ k, SoundF P (run P H k)
  | 0 => fun g args h v h' hr => by simp [run] at hr
  | k + 1 => fun g args h v h' hr E hh s cargs hargs => by
    subst hh
    simp only [run] at hr
    split at hr
    · rename_i fn hf
      split at hr
      · rename_i c hb
        have hinit : Inv E ⟨args ++ List.replicate (fn.ntmps - args.length) .undef, E.h⟩ { tmps := cargs ++ Array.replicate (fn.ntmps - cargs.size) undef, defers := [] } E.w := by
          refine ⟨E.ι, s, ?_, Ext.refl E, Wd.refl _, rfl⟩
          have hl : args.length = cargs.size := by have := hargs.len; simpa using this
          rw [hl, Array.toList_append, Array.toList_replicate]
          refine hargs.app (VL.of (by simp) fun i u c hu hc => ?_)
          rw [List.getElem?_replicate] at hu hc
          split at hu
          · rename_i hi
            rw [if_pos hi] at hc
            cases hu; cases hc
            simp [AV.undef, undef, VR, VL]
          · cases hu
        have hend : ∀ (ex : Ex) (st : S), (ex = .nrm ∨ ex = .ret) → exec ⟨P, run P H k, k, E.h.length, H.keep g, H.keepX g, H.keepR g, H.abs g⟩ c ⟨args ++ List.replicate (fn.ntmps - args.length) .undef, E.h⟩ = some (ex, st) →
            (resultsA P st fn.results.toList).map (fun v => finish E.h.length (H.frz g) st.h v) = some (v, h') →
            Calls P g cargs E.w fun e w' => ∃ cv ι', e = .returned cv ∧ Sim ⟨ι', h', w', E.X⟩ ∧ Ext E ⟨ι', h', w', E.X⟩ ∧ Wd E.w w' ∧ VR ⟨ι', h', w', E.X⟩ v cv := by
          intro ex st hex he hres
          refine calls_of_wp hf hb (exec_ok (C := ⟨P, run P H k, k, E.h.length, H.keep g, H.keepX g, H.keepR g, H.abs g⟩) (E0 := E) hP (run_ok hP H k) rfl c he hinit fun a' w' hi => ?_)
          obtain ⟨ι, s2, ht2, x2, wd2, hd2⟩ := hi
          rw [Option.map_eq_some_iff] at hres
          obtain ⟨u, hu, hfin⟩ := hres
          obtain ⟨cv, hr2, hv2⟩ := results_ok (P := P) (E := ⟨ι, st.h, w', E.X⟩) (fn := fn) s2 rfl ht2 hu
          obtain ⟨ι', s3, x3, hv3⟩ := finish_ok (E := ⟨ι, st.h, w', E.X⟩) (E0 := E) s2 x2 hv2 hfin
          have hpost : a'.defers = [] ∧ ∃ v', (results fn a'.tmps).run P w' = .ok v' w' ∧ ∃ cv ι', Ending.returned v' = .returned cv ∧ Sim ⟨ι', h', w', E.X⟩ ∧ Ext E ⟨ι', h', w', E.X⟩ ∧ Wd E.w w' ∧ VR ⟨ι', h', w', E.X⟩ v cv :=
            ⟨hd2, cv, hr2, cv, ι', rfl, s3, x3, wd2, hv3⟩
          rcases hex with rfl | rfl
          · exact hpost
          · exact hpost
        split at hr
        · rename_i st he; exact hend .nrm st (.inl rfl) he hr
        · rename_i st he; exact hend .ret st (.inr rfl) he hr
        · cases hr
      · cases hr
    · cases hr
end
end Go.Proofs.YthihinlamlamhaaE
