/- Configurations: the specs hold. -/
import Derived.Test.YthihinlamlamhaaG4n
namespace Go.Proofs.YthihinlamlamhaaE
open Go
set_option linter.unusedVariables false
set_option linter.unusedSimpArgs false
set_option maxRecDepth 100000

theorem irow_app (k : IntKind) (a b : List Int) : irow k (a ++ b) = irow k a ++ irow k b := by simp [irow]
theorem okLMake : OkLp Try.prog H0 10 6 lMake := by
  refine okLp_of (U := 6) (k := 6) okS5 lMake (fun vals _ => match vals with | [_, _, _, .int _ i] => (3 - i).toNat | _ => 0) fun vals h Q hl => ?_
  unfold lMake at hl
  split at hl
  · rename_i i n' pi' e' g' fi' nl rs z1 z2 z3 z4 z5 n pi e g fi
    obtain ⟨⟨h0, h1, h2⟩, hq1, hq2⟩ := hyp_iff.1 hl
    subst h0
    refine to (nf10a ..) ?_
    have w1 : IntKind.i64.wrap (n + 1) = n + 1 := wr (by omega) (by omega)
    rw [w1]
    refine br_intro (fun hc => br_intro (fun hc2 => ?_) fun hc2 => ?_) fun hc => ?_
    · have hc := of_decide_eq_true hc
      refine chk_iff.2 ⟨⟨by omega, hc⟩, chk_iff.2 ⟨by omega, ?_⟩⟩
      have hr := rem_lt ((rs.getD (0 : Int).toNat []).getD 0 AV.gone).toI (show 0 < n + 1 by omega)
      have w2 : IntKind.i64.wrap ((0 : Int) + 1) = 1 := by decide
      have w3 : IntKind.i64.wrap (s_rem ((rs.getD (0 : Int).toNat []).getD 0 AV.gone).toI (n + 1) - 1) = s_rem ((rs.getD (0 : Int).toNat []).getD 0 AV.gone).toI (n + 1) - 1 := wr (by omega) (by omega)
      rw [w2, w3]
      exact ⟨by show (3 - 1 : Int).toNat < (3 - 0 : Int).toNat; decide, ⟨rfl, by omega, h1, h2, [_], rfl, rfl, fun p hp => by rw [List.mem_singleton.1 hp]; omega⟩, hq2⟩
    · exact absurd hc2 (by simp)
    · exact hq1
  · rename_i i n' pi' e' g' fi' nl rs z1 z2 z3 z4 z5 n pi e g fi m rows
    obtain ⟨⟨h0, hm, h1, h2, qs, rfl, hqs, hqb⟩, hq2⟩ := hl
    subst h0
    refine to (nf10b ..) ?_
    have w1 : IntKind.i64.wrap (n + 1) = n + 1 := wr (by omega) (by omega)
    rw [w1]
    have w2 : IntKind.i64.wrap ((m : Int) + 1) = ((m + 1 : Nat) : Int) := wr (by omega) (by omega)
    have fin : Q (.exit 0) [.ptr 0 0, .ptr 1 0] [.box [.int .i64 z1, .int .i64 z2, .int .i64 z3, .int .i64 z4, .int .i64 z5, .nils], .box [.int .i64 n, .int .i64 pi, .int .i64 e, .int .i64 g, .int .i64 fi, .sl 2 0 m], .arr 2 3 [.int .i64] (irow .i64 qs)] := by
      rw [← hqs]; exact hq2 qs (by omega) hqb
    refine br_intro (fun hc => br_intro (fun hc2 => ?_) fun hc2 => fin) fun hc => fin
    have hc := of_decide_eq_true hc
    have hc2 := of_decide_eq_true hc2
    have hr := rem_lt ((rs.getD (m : Int).toNat []).getD 0 AV.gone).toI (show 0 < n + 1 by omega)
    have w3 : IntKind.i64.wrap (s_rem ((rs.getD (m : Int).toNat []).getD 0 AV.gone).toI (n + 1) - 1) = s_rem ((rs.getD (m : Int).toNat []).getD 0 AV.gone).toI (n + 1) - 1 := wr (by omega) (by omega)
    refine chk_iff.2 ⟨⟨by omega, hc⟩, chk_iff.2 ⟨by omega, ?_⟩⟩
    rw [irow_len]
    refine chk_iff.2 ⟨hqs.symm, chk_iff.2 ⟨by omega, chk_iff.2 ⟨by omega, ?_⟩⟩⟩
    rw [w2, w3, hqs]
    exact ⟨by show (3 - ((m + 1 : Nat) : Int)).toNat < (3 - (m : Int)).toNat; omega, ⟨rfl, by omega, h1, h2, qs ++ [s_rem ((rs.getD (m : Int).toNat []).getD 0 AV.gone).toI (n + 1) - 1], by simp [irow], by simp [hqs], fun p hp => by
      rcases List.mem_append.1 hp with hp | hp
      · exact hqb p hp
      · rw [List.mem_singleton.1 hp]; omega⟩, hq2⟩
  · exact hl.elim
theorem okSCL : OkSp Try.prog H0 SCL := ⟨okS5.fn, okLMake, trivial⟩
theorem ok10 : OkS Try.prog H0 10 sMake := by
  intro args h Q hq
  unfold sMake at hq
  split at hq
  · rename_i n pi e g fi nl rs
    refine in_ok (S := SCL) (U := 6) (k := 6) okSCL (to (nf10 ..) ?_)
    have r1 := rem_lt n (show (0 : Int) < 7 by omega)
    have r2 := rem_lt e (show (0 : Int) < 21 by omega)
    have r3 := rem_lt g (show (0 : Int) < 21 by omega)
    have r4 := rem_lt pi (show (0 : Int) < 100 by omega)
    have r5 := rem_lt fi (show (0 : Int) < 40 by omega)
    have r6 := rem_lt fi (show (0 : Int) < 65536 by omega)
    rw [wr (x := 6 + s_rem n 7) (by omega) (by omega), wr (x := s_rem e 21 + s_rem g 21) (by omega) (by omega), wr (x := s_rem e 21 + s_rem g 21 + 1) (by omega) (by omega), wr (x := 4 * (s_rem e 21 + s_rem g 21 + 1)) (by omega) (by omega),
      wr (x := 4 * (s_rem e 21 + s_rem g 21 + 1) + s_rem pi 100) (by omega) (by omega), wr (x := 65535 - s_rem fi 40) (by omega) (by omega)]
    have take : ∀ ps : List Int, List.take ps.length (List.drop 0 (List.map (fun n => [AV.int IntKind.i64 n]) ps)) = irow .i64 ps := fun ps => by
      rw [List.drop_zero, List.take_of_length_le (by simp)]; rfl
    refine br_intro (fun _ => hyp_iff.2 ⟨⟨rfl, by omega, by omega⟩, ?_, fun ps h1 h2 => chk_iff.2 ⟨by simp, ?_⟩⟩) fun _ => hyp_iff.2 ⟨⟨rfl, by omega, by omega⟩, ?_, fun ps h1 h2 => chk_iff.2 ⟨by simp, ?_⟩⟩
    · exact hq _ _ _ _ _ true [] ⟨by omega, by omega, by omega, by omega, by omega, by omega, by omega, by omega, by omega, by omega, by simp, by simp⟩
    · rw [take]; exact hq _ _ _ _ _ false ps ⟨by omega, by omega, by omega, by omega, by omega, by omega, by omega, by omega, by omega, by omega, h1, h2⟩
    · exact hq _ _ _ _ _ true [] ⟨by omega, by omega, by omega, by omega, by omega, by omega, by omega, by omega, by omega, by omega, by simp, by simp⟩
    · rw [take]; exact hq _ _ _ _ _ false ps ⟨by omega, by omega, by omega, by omega, by omega, by omega, by omega, by omega, by omega, by omega, h1, h2⟩
  · exact hq.elim
theorem ok19 : OkS Try.prog H0 19 sCheck := by
  intro args h Q hq
  unfold sCheck at hq
  split at hq
  · rename_i n pi e g fi nl rs
    obtain ⟨h0, hQ⟩ := hyp_iff.1 hq
    simp only [s_confOk, Bool.and_eq_true, decide_eq_true_eq] at h0
    obtain ⟨⟨⟨⟨⟨⟨⟨⟨⟨⟨⟨h1, h2⟩, h3⟩, h4⟩, h5⟩, h6⟩, h7⟩, h8⟩, h9⟩, h10⟩, h11⟩, h12⟩ := h0
    have w1 : IntKind.i64.wrap (e + g) = e + g := wr (by omega) (by omega)
    have w2 : IntKind.i64.wrap (e + g + 1) = e + g + 1 := wr (by omega) (by omega)
    have w3 : IntKind.i64.wrap (4 * (e + g + 1)) = 4 * (e + g + 1) := wr (by omega) (by omega)
    have w4 : IntKind.i64.wrap (n - 1) = n - 1 := wr (by omega) (by omega)
    have w5 : IntKind.i64.wrap ((0 : Int) + 1) = 1 := by decide
    have w6 : IntKind.i64.wrap ((1 : Int) + 1) = 2 := by decide
    have hall : ∀ r ∈ rs, -1 ≤ (r.getD 0 AV.gone).toI ∧ (r.getD 0 AV.gone).toI < n := fun r hr => by
      have := List.all_eq_true.1 h12 _ (List.mem_map_of_mem hr)
      simpa using this
    refine in_ok (S := S5) (U := 6) (k := 6) okS5 ?_
    have hl : rs.length ≤ 3 := by simpa [ints] using h11
    match rs, hl, hall with
    | [], _, _ =>
      refine to (nf19z ..) ?_
      rw [w1, w2, w3]
      repeat' first | exact hQ | refine br_intro (fun hc => ?_) fun hc => ?_
      all_goals (exfalso; simp only [Bool.not_eq_true', decide_eq_false_iff_not, decide_eq_true_eq] at hc; omega)
    | [a], _, hall =>
      have ha := hall a (by simp)
      refine to (nf19a ..) ?_
      rw [w1, w2, w3, w4]
      repeat' first | exact hQ | refine br_intro (fun hc => ?_) fun hc => ?_
      all_goals (exfalso; simp only [Bool.not_eq_true', decide_eq_false_iff_not, decide_eq_true_eq] at hc; first | omega | (change ¬ (a.getD 0 AV.gone).toI ≥ -1 at hc; omega) | (change ¬ (a.getD 0 AV.gone).toI ≤ n - 1 at hc; omega))
    | [a, b], _, hall =>
      have ha := hall a (by simp)
      have hb := hall b (by simp)
      refine to (nf19b ..) ?_
      rw [w1, w2, w3, w4]
      repeat' first | exact hQ | refine br_intro (fun hc => ?_) fun hc => ?_
      all_goals (exfalso; simp only [Bool.not_eq_true', decide_eq_false_iff_not, decide_eq_true_eq] at hc; first | omega | (change ¬ (a.getD 0 AV.gone).toI ≥ -1 at hc; omega) | (change ¬ (a.getD 0 AV.gone).toI ≤ n - 1 at hc; omega) | (change ¬ (b.getD 0 AV.gone).toI ≥ -1 at hc; omega) | (change ¬ (b.getD 0 AV.gone).toI ≤ n - 1 at hc; omega))
    | [a, b, c], _, hall =>
      have ha := hall a (by simp)
      have hb := hall b (by simp)
      have hc' := hall c (by simp)
      refine to (nf19c ..) ?_
      rw [w1, w2, w3, w4]
      repeat' first | exact hQ | refine br_intro (fun hc => ?_) fun hc => ?_
      all_goals (exfalso; simp only [Bool.not_eq_true', decide_eq_false_iff_not, decide_eq_true_eq] at hc; first | omega | (change ¬ (a.getD 0 AV.gone).toI ≥ -1 at hc; omega) | (change ¬ (a.getD 0 AV.gone).toI ≤ n - 1 at hc; omega) | (change ¬ (b.getD 0 AV.gone).toI ≥ -1 at hc; omega) | (change ¬ (b.getD 0 AV.gone).toI ≤ n - 1 at hc; omega) | (change ¬ (c.getD 0 AV.gone).toI ≥ -1 at hc; omega) | (change ¬ (c.getD 0 AV.gone).toI ≤ n - 1 at hc; omega))
    | _ :: _ :: _ :: _ :: _, hl, _ => simp at hl
  · rename_i n pi e g fi
    obtain ⟨h0, hQ⟩ := hyp_iff.1 hq
    simp only [s_confOk, Bool.and_eq_true, decide_eq_true_eq] at h0
    obtain ⟨⟨⟨⟨⟨⟨⟨⟨⟨⟨⟨h1, h2⟩, h3⟩, h4⟩, h5⟩, h6⟩, h7⟩, h8⟩, h9⟩, h10⟩, h11⟩, h12⟩ := h0
    have w1 : IntKind.i64.wrap (e + g) = e + g := wr (by omega) (by omega)
    have w2 : IntKind.i64.wrap (e + g + 1) = e + g + 1 := wr (by omega) (by omega)
    have w3 : IntKind.i64.wrap (4 * (e + g + 1)) = 4 * (e + g + 1) := wr (by omega) (by omega)
    refine in_ok (S := S5) (U := 6) (k := 6) okS5 (to (nf19n ..) ?_)
    rw [w1, w2, w3]
    repeat' first | exact hQ | refine br_intro (fun hc => ?_) fun hc => ?_
    all_goals (exfalso; simp only [Bool.not_eq_true', decide_eq_false_iff_not, decide_eq_true_eq] at hc; omega)
  · exact hq.elim
end Go.Proofs.YthihinlamlamhaaE
