/- FaultDevs, FaultChecks: the plain laws. -/
import Derived.Test.YtikmaidjpffakaaF7p
import Derived.Test.YtikmaidjpffakaaF8n
namespace Go.Proofs.YtikmaidjpffakaaE
open Go
set_option linter.unusedVariables false
set_option linter.unusedSimpArgs false
set_option maxRecDepth 100000

theorem maxL {n : Nat} (h : n ≤ maxLen) : n ≤ 9223372036854775807 := by
  have : maxLen = 9223372036854775807 := by decide
  omega
theorem made_pi {n pi e g fi : Int} {ps : List Int} (h : s_made n pi e g fi ps) : 0 ≤ pi ∧ pi ≤ 1000 := by
  obtain ⟨h1, h2, h3, h4, h5, h6, h7, h8, h9, h10, h11, h12⟩ := h
  omega
theorem dev_facts (k a f t : Int) (ds : List Int) {pi : Int} (hp : 0 ≤ pi) (ro ow no de : Int) : (s_dev k a f t ds pi ro ow no de = de ∨ (-(6 * pi) ≤ s_dev k a f t ds pi ro ow no de ∧ s_dev k a f t ds pi ro ow no de ≤ 6 * pi)) ∧
    ((k = 1 ∧ a = ow) ∨ s_dev k a f t ds pi ro ow no de = de) := by
  unfold s_dev
  split
  · exact ⟨.inl rfl, .inr rfl⟩
  · rename_i hc
    refine ⟨.inr ?_, .inl ⟨by omega, by omega⟩⟩
    split
    · omega
    · omega
theorem devs_holds (n pi e g fi : Int) (nl : Bool) (rs : List (List AV)) (k a f t : Int) (nl1 nl2 : Bool) (acts ds : List (List AV)) (hg : ∀ r ∈ acts, ∃ (a b : Int) (s : ByteArray), r = [.int .i64 a, .int .i64 b, .str s] ∧ (s.size : Int) ≤ maxLen)
    (hl : acts.length ≤ maxLen) (hl2 : ds.length ≤ maxLen) (hd : ∀ r ∈ ds, AInt .i64 r) (ro ow no de : Int) :
    inlW Try.prog H0 S11 6 (InO Try.prog H0 S11 6 6) 10 [cf n pi e g fi nl rs, .agg [.int .i64 k, .int .i64 a, .int .i64 f, .int .i64 t, .row nl1 [.int .i64, .int .i64, .str] acts, .row nl2 [.int .i64] ds], .int .i64 ro, .int .i64 ow, .int .i64 no, .int .i64 de] [] (fun r => r.1 = .bool true) := by
  refine to (nf10 ..) ⟨.mk (maxL hl), fun b _ => ?_⟩
  cases b
  · exact rfl
  refine (br_f).2 ?_
  intro n' pi' e' g' fi' nl' ps hm
  refine ⟨.mk ⟨hm.1, hm.2.1⟩, ?_⟩
  intro k' a' f' t' nl1' nl2' acts' ds' hf
  have hp := made_pi hm
  have hn := hm.1
  have hn2 := hm.2.1
  obtain ⟨_, _, _, _, _, _, _, _, _, _, _, hds⟩ := hf
  clear hm
  have rO := rem_lt ow (show (0 : Int) < n' by omega)
  have rN := rem_lt no (show (0 : Int) < n' by omega)
  have rR := rem_lt ro (show (0 : Int) < 130 by omega)
  have rD := rem_lt de (show (0 : Int) < 2000000 by omega)
  rw [wr (x := s_rem de 2000000 - 1000000) (by omega) (by omega), wr (x := 6 * pi') (by omega) (by omega), wr (x := 0 - 6 * pi') (by omega) (by omega)]
  have hh : (0 : Int) ≤ pi' ∧ pi' ≤ 1000000 ∧ 0 ≤ s_rem ro 130 ∧ s_rem ro 130 ≤ 1000000 ∧ 0 ≤ s_rem no n' ∧ s_rem no n' ≤ 1000000 ∧ (List.map (fun n => [AV.int IntKind.i64 n]) ds').length ≤ 1000000 := ⟨by omega, by omega, by omega, by omega, by omega, by omega, by rw [List.length_map]; omega⟩
  refine chk_iff.2 ⟨by omega, chk_iff.2 ⟨by omega, .mk hh, .mk hh, ?_⟩⟩
  have fa := dev_facts k' a' f' t' (List.map (fun r => (r.getD (0 : Nat) AV.gone).toI) (List.map (fun n => [AV.int IntKind.i64 n]) ds')) hp.1 (s_rem ro 130) (s_rem ow n') (s_rem no n') (s_rem de 2000000 - 1000000)
  generalize s_dev k' a' f' t' (List.map (fun r => (r.getD (0 : Nat) AV.gone).toI) (List.map (fun n => [AV.int IntKind.i64 n]) ds')) pi' (s_rem ro 130) (s_rem ow n') (s_rem no n') (s_rem de 2000000 - 1000000) = X at *
  generalize s_rem de 2000000 - 1000000 = D at *
  generalize s_rem ow n' = O at *
  have e1 : ∀ {b : Bool}, b = true → (AV.bool b, ([] : List AObj)).1 = AV.bool true := fun h => by rw [h]
  refine br_intro (fun _ => br_intro (fun c1 => br_intro (fun _ => br_intro (fun _ => rfl) fun _ => e1 c1) fun _ => e1 c1) fun c1 => br_intro (fun c2 => br_intro (fun c3 => br_intro (fun c4 => br_intro (fun _ => rfl) fun c5 => ?_) fun c4 => ?_) fun c3 => ?_) fun c2 => ?_) fun c => ?_
  all_goals simp only [beq_iff_eq, beq_eq_false_iff_ne, decide_eq_true_eq, decide_eq_false_iff_not] at *
  all_goals (exfalso; omega)
theorem fok_check {n k a f t : Int} {acts : List (List AV)} {ds : List Int} (hn : 6 ≤ n) (h : s_fok n k a f t acts ds) : s_fcheck n k a f t acts (List.map (fun n => [AV.int IntKind.i64 n]) ds) = 0 := by
  obtain ⟨h1, h2, h3, h4, h5, h6, h7, h8, h9, h10, h11, h12⟩ := h
  unfold s_fcheck
  have hl : s_long acts = false := long_no fun r hr => by
    obtain ⟨how, m, x, rfl, hx⟩ := h11 r hr
    show ¬ 1000 < x.size
    omega
  have hp : ¬ (a < 0 ∨ s_places n k ≤ a) := by
    unfold s_places
    split
    · rename_i c; have := h8 c; omega
    · split
      · rename_i c; have := h9 c; omega
      · have := h7 (by omega); omega
  rw [if_neg (by omega), if_neg hp, if_neg (by omega), if_neg (by rw [List.length_map]; omega), if_neg (by rw [hl]; simp)]
theorem checks_holds (n pi e g fi : Int) (nl : Bool) (rs : List (List AV)) (k a f t : Int) (nl1 nl2 : Bool) (acts ds : List (List AV)) (hg : ∀ r ∈ acts, ∃ (a b : Int) (s : ByteArray), r = [.int .i64 a, .int .i64 b, .str s] ∧ (s.size : Int) ≤ maxLen)
    (hl : acts.length ≤ maxLen) (hl2 : ds.length ≤ maxLen) (hd : ∀ r ∈ ds, AInt .i64 r) (wh x : Int) :
    inlW Try.prog H0 S11 6 (InO Try.prog H0 S11 6 6) 3 [cf n pi e g fi nl rs, .agg [.int .i64 k, .int .i64 a, .int .i64 f, .int .i64 t, .row nl1 [.int .i64, .int .i64, .str] acts, .row nl2 [.int .i64] ds], .int .i64 wh, .int .i64 x] [] (fun r => r.1 = .bool true) := by
  refine to (nf3 ..) ⟨.mk (maxL hl), fun b _ => ?_⟩
  cases b
  · exact rfl
  refine (br_f).2 ?_
  intro n' pi' e' g' fi' nl' ps hm
  refine ⟨.mk ⟨hm.1, hm.2.1⟩, ?_⟩
  intro k' a' f' t' nl1' nl2' acts' ds' hf
  have hn := hm.1
  have hn2 := hm.2.1
  have hc := fok_check hn hf
  have ha := hf.2.2.2.2.2.2.2.2.2.1
  clear hm hf
  have r4 := rem_lt x (show (0 : Int) < 4 by omega)
  have r3 := rem_lt x (show (0 : Int) < 3 by omega)
  have h1 : (0 : Int) ≤ n' ∧ n' ≤ 1000000 ∧ acts.length ≤ 9223372036854775807 := ⟨by omega, by omega, maxL hl⟩
  have h2 : (0 : Int) ≤ n' ∧ n' ≤ 1000000 ∧ acts'.length ≤ 9223372036854775807 := ⟨by omega, by omega, by omega⟩
  rw [wr (x := 39 + s_rem x 3) (by omega) (by omega), wr (x := 999 + s_rem x 3) (by omega) (by omega)]
  obtain ⟨u, hu⟩ : ∃ u, u = s_rem x 4 := ⟨_, rfl⟩
  have e1 : ∀ {b : Bool}, b = true → (AV.bool b, ([] : List AObj)).1 = AV.bool true := fun h => by rw [h]
  have e2 : ∀ z : Int, (z == z) = true := fun z => by simp
  refine ⟨.mk h1, .mk h1, br_intro (fun c => absurd c (by simp)) fun _ => ⟨.mk h2, br_intro (fun c => absurd c (by rw [hc]; simp)) fun _ => ?_⟩⟩
  refine br_intro (fun _ => ⟨.mk h2, .mk h2, e1 (e2 _)⟩) fun _ => ?_
  refine br_intro (fun _ => chk_iff.2 ⟨by omega, chk_iff.2 ⟨by omega, .mk h2, .mk h2, e1 (e2 _)⟩⟩) fun _ => ?_
  refine br_intro (fun _ => ⟨.mk h2, .mk h2, e1 (e2 _)⟩) fun _ => ?_
  refine br_intro (fun _ => ⟨.mk h2, .mk h2, e1 (e2 _)⟩) fun _ => ?_
  refine br_intro (fun _ => ⟨.mk h2, .mk h2, e1 (e2 _)⟩) fun _ => ?_
  refine br_intro (fun _ => ?_) fun _ => br_intro (fun _ => ?_) fun _ => ⟨.mk h2, .mk h2, e1 (e2 _)⟩
  · have hr : ∀ (m : Nat) (z : List AV), 0 + m ≤ (List.replicate m z).length := fun m z => by simp
    have hz : ∀ z : List AV, (0 : Int) ≤ n' ∧ n' ≤ 1000000 ∧ (List.take (39 + s_rem x 3).toNat (List.drop 0 (List.replicate (39 + s_rem x 3).toNat z))).length ≤ 9223372036854775807 := fun z => ⟨by omega, by omega, by
      rw [List.length_take, List.length_drop, List.length_replicate]; omega⟩
    rw [chk_iff, chk_iff, chk_iff, chk_iff, chk_iff]
    exact ⟨by omega, by omega, hr _ _, hr _ _, .mk (hz _), hr _ _, .mk (hz _), e1 (e2 _)⟩
  · have hr : ∀ (m : Nat) (z : List AV), 0 + m ≤ (List.replicate m z).length := fun m z => by simp
    rw [chk_iff, chk_iff, chk_iff]
    exact ⟨by omega, by omega, hr _ _, .mk ⟨by omega, by omega, by omega⟩, .mk ⟨by omega, by omega, by omega⟩, e1 (e2 _)⟩
end Go.Proofs.YtikmaidjpffakaaE
