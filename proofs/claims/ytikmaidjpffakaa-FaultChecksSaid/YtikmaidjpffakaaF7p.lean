/- Checks and clocks of a locus: the specs hold. -/
import Derived.Test.YtikmaidjpffakaaF6p
import Derived.Test.YtikmaidjpffakaaF7n
namespace Go.Proofs.YtikmaidjpffakaaE
open Go
set_option linter.unusedVariables false
set_option linter.unusedSimpArgs false
set_option maxRecDepth 100000

theorem long_no {rs : List (List AV)} (h : ∀ r ∈ rs, ¬ 1000 < (actText r).size) : s_long rs = false := by
  unfold s_long
  rw [List.any_eq_false]
  intro r hr
  simpa using h r hr
theorem long_yes {rs : List (List AV)} {i : Nat} (hi : i < rs.length) (h : 1000 < (actText (rs.getD i [])).size) : s_long rs = true := by
  unfold s_long
  rw [List.any_eq_true]
  exact ⟨rs.getD i [], by rw [List.getD_eq_getElem?_getD, List.getElem?_eq_getElem hi]; simp, by simpa using h⟩
theorem okLIdxA : OkLp Try.prog H0 64 2 lIdxA := by
  refine okLp_of (U := 6) (k := 6) okS9 lIdxA (fun vals _ => match vals with | [_, _, .int _ m, .int _ i] => (m - i).toNat | _ => 0) fun vals h Q hl => ?_
  unfold lIdxA at hl
  split at hl
  · rename_i nl rs m i
    obtain ⟨⟨hm, h0, h1, h2, h3⟩, hq1, hq2⟩ := hyp_iff.1 hl
    subst hm
    refine to (nf64a ..) ?_
    refine br_intro (fun hc => chk_iff.2 ⟨⟨h0, of_decide_eq_true hc⟩, br_intro (fun hb => ?_) fun hb => ?_⟩) fun hc => ?_
    · have hb : (((actText (rs.getD i.toNat [])).size : Nat) : Int) > 1000 := of_decide_eq_true hb
      have hc := of_decide_eq_true hc
      exact hq2 i h0 (long_yes (i := i.toNat) (by omega) (by omega))
    · have hc := of_decide_eq_true hc
      rw [wr (x := i + 1) (by omega) (by omega)]
      refine ⟨by show ((rs.length : Int) - (i + 1)).toNat < ((rs.length : Int) - i).toNat; omega, hyp_iff.2 ⟨⟨rfl, by omega, by omega, h2, ?_⟩, hq1, hq2⟩⟩
      rw [show (i + 1).toNat = i.toNat + 1 by omega]
      refine take_succ (by omega) h3 ?_
      have hb : ¬ (((actText (rs.getD i.toNat [])).size : Nat) : Int) > 1000 := of_decide_eq_false hb
      omega
    · have hc := of_decide_eq_false hc
      refine hq1 (long_no fun r hr => h3 r ?_)
      rw [List.take_of_length_le (by omega)]; exact hr
  · exact hl.elim
theorem okLChk : OkLp Try.prog H0 16 14 lChk := by
  refine okLp_of (U := 6) (k := 6) okS9 lChk (fun vals h => match vals, h with | [_, .int _ i], [.box [_, _, _, _, .row _ _ rs, _]] => ((rs.length : Int) - i).toNat | _, _ => 0) fun vals h Q hl => ?_
  unfold lChk at hl
  split at hl
  · rename_i i k a f t nl rs nl2 ds
    obtain ⟨⟨h0, h1, h2, h3⟩, hq1, hq2⟩ := hyp_iff.1 hl
    refine to (nf16a ..) ?_
    refine br_intro (fun hc => chk_iff.2 ⟨⟨h0, of_decide_eq_true hc⟩, br_intro (fun hb => ?_) fun hb => ?_⟩) fun hc => ?_
    · have hb : (((actText (rs.getD i.toNat [])).size : Nat) : Int) > 1000 := of_decide_eq_true hb
      have hc := of_decide_eq_true hc
      exact hq2 (long_yes (i := i.toNat) (by omega) (by omega))
    · have hc := of_decide_eq_true hc
      rw [wr (x := i + 1) (by omega) (by omega)]
      refine ⟨by show ((rs.length : Int) - (i + 1)).toNat < ((rs.length : Int) - i).toNat; omega, hyp_iff.2 ⟨⟨by omega, by omega, h2, ?_⟩, hq1, hq2⟩⟩
      rw [show (i + 1).toNat = i.toNat + 1 by omega]
      refine take_succ (by omega) h3 ?_
      have hb : ¬ (((actText (rs.getD i.toNat [])).size : Nat) : Int) > 1000 := of_decide_eq_false hb
      omega
    · have hc := of_decide_eq_false hc
      refine hq1 (long_no fun r hr => h3 r ?_)
      rw [List.take_of_length_le (by omega)]; exact hr
  · exact hl.elim
theorem okS10L : OkSp Try.prog H0 S10L := ⟨okS9.fn, okLIdxA, okLChk, trivial⟩
theorem ok42 : OkS Try.prog H0 42 sHasA := by
  intro args h Q hq
  unfold sHasA at hq
  split at hq
  · obtain ⟨h0, hQ⟩ := hyp_iff.1 hq
    refine in_ok (S := S10L) (U := 6) (k := 6) okS10L (to (nf42 ..) (hyp_iff.2 ⟨⟨rfl, by omega, by omega, h0, fun r hr => by simp at hr⟩, fun e => ?_, fun j hj e => ?_⟩))
    · rw [e] at hQ; exact hQ
    · rw [e] at hQ; rw [decide_eq_true hj]; exact hQ
  · exact hq.elim
theorem okS10 : OkSp Try.prog H0 S10 := ⟨⟨ok42, okS9.fn⟩, trivial⟩
section
variable {n k a f t p : Int} {acts ds : List (List AV)} {Q : AV × List AObj → Prop}
theorem tail15 (hk : ¬ (k < 0 ∨ 2 < k)) (ha : ¬ a < 0) (hp : s_places n k = p) (hl : acts.length ≤ 9223372036854775807) (hQ : Q (.int .i64 (s_fcheck n k a f t acts ds), [])) :
    br (decide (a ≥ p)) (Q ((AV.int IntKind.i64 (1 : Int), []))) (br (decide (f < (0 : Int))) (Q ((AV.int IntKind.i64 (1 : Int), []))) (br (decide (t > (1000 : Int))) (Q ((AV.int IntKind.i64 (1 : Int), [])))
      (br (decide (t < f)) (Q ((AV.int IntKind.i64 (1 : Int), []))) (br (decide ((↑acts.length : Int) > (40 : Int))) (Q ((AV.int IntKind.i64 (2 : Int), []))) (br (decide ((↑ds.length : Int) > (40 : Int))) (Q ((AV.int IntKind.i64 (2 : Int), [])))
        ((Hyp (acts.length ≤ (9223372036854775807 : Nat))) ∧ (br (s_long acts) (Q ((AV.int IntKind.i64 (2 : Int), []))) (Q ((AV.int IntKind.i64 (0 : Int), [])))))))))) := by
  unfold s_fcheck at hQ
  rw [if_neg hk, hp] at hQ
  refine br_intro (fun c1 => ?_) fun c1 => br_intro (fun c2 => ?_) fun c2 => br_intro (fun c3 => ?_) fun c3 => br_intro (fun c4 => ?_) fun c4 => br_intro (fun c5 => ?_) fun c5 => br_intro (fun c6 => ?_) fun c6 => ⟨.mk hl, br_intro (fun c7 => ?_) fun c7 => ?_⟩
  all_goals simp only [decide_eq_true_eq, decide_eq_false_iff_not] at *
  · rw [if_pos (by omega)] at hQ; exact hQ
  · rw [if_neg (by omega), if_pos (by omega)] at hQ; exact hQ
  · rw [if_neg (by omega), if_pos (by omega)] at hQ; exact hQ
  · rw [if_neg (by omega), if_pos (by omega)] at hQ; exact hQ
  · rw [if_neg (by omega), if_neg (by omega), if_pos (by omega)] at hQ; exact hQ
  · rw [if_neg (by omega), if_neg (by omega), if_pos (by omega)] at hQ; exact hQ
  · rw [if_neg (by omega), if_neg (by omega), if_neg (by omega), if_pos c7] at hQ; exact hQ
  · rw [if_neg (by omega), if_neg (by omega), if_neg (by omega), if_neg (by simp [c7])] at hQ; exact hQ
theorem tail16 (hk : ¬ (k < 0 ∨ 2 < k)) (hp : s_places n k = p) (hl : acts.length ≤ 9223372036854775807) (hQ : Q (.int .i64 (s_fcheck n k a f t acts ds), [])) :
    br (decide (a < (0 : Int))) (Q ((AV.int IntKind.i64 (1 : Int), []))) (br (decide (a ≥ p)) (Q ((AV.int IntKind.i64 (1 : Int), []))) (br (decide (f < (0 : Int))) (Q ((AV.int IntKind.i64 (1 : Int), []))) (br (decide (f > (1000 : Int))) (Q ((AV.int IntKind.i64 (1 : Int), [])))
      (br (decide (t < f)) (Q ((AV.int IntKind.i64 (1 : Int), []))) (br (decide (t > (1000 : Int))) (Q ((AV.int IntKind.i64 (1 : Int), []))) (br (decide ((↑acts.length : Int) > (40 : Int))) (Q ((AV.int IntKind.i64 (2 : Int), []))) (br (decide ((↑ds.length : Int) > (40 : Int))) (Q ((AV.int IntKind.i64 (2 : Int), [])))
        ((Hyp ((0 : Int) ≤ (0 : Int) ∧ (0 : Int) ≤ (↑acts.length : Int) ∧ acts.length ≤ (9223372036854775807 : Nat) ∧ ∀ (r : List AV), r ∈ List.take (Int.toNat (0 : Int)) acts → ¬(1000 : Nat) < (actText r).size)) ∧
         ((s_long acts = false) → Q ((AV.int IntKind.i64 (0 : Int), []))) ∧ ((s_long acts = true) → Q ((AV.int IntKind.i64 (2 : Int), []))))))))))) := by
  unfold s_fcheck at hQ
  rw [if_neg hk, hp] at hQ
  refine br_intro (fun c1 => ?_) fun c1 => br_intro (fun c2 => ?_) fun c2 => br_intro (fun c3 => ?_) fun c3 => br_intro (fun c4 => ?_) fun c4 => br_intro (fun c5 => ?_) fun c5 => br_intro (fun c6 => ?_) fun c6 => br_intro (fun c8 => ?_) fun c8 => br_intro (fun c9 => ?_) fun c9 =>
    ⟨.mk ⟨by omega, by omega, hl, fun r hr => by simp at hr⟩, fun c7 => ?_, fun c7 => ?_⟩
  all_goals simp only [decide_eq_true_eq, decide_eq_false_iff_not] at *
  · rw [if_pos (by omega)] at hQ; exact hQ
  · rw [if_pos (by omega)] at hQ; exact hQ
  · rw [if_neg (by omega), if_pos (by omega)] at hQ; exact hQ
  · rw [if_neg (by omega), if_pos (by omega)] at hQ; exact hQ
  · rw [if_neg (by omega), if_pos (by omega)] at hQ; exact hQ
  · rw [if_neg (by omega), if_pos (by omega)] at hQ; exact hQ
  · rw [if_neg (by omega), if_neg (by omega), if_pos (by omega)] at hQ; exact hQ
  · rw [if_neg (by omega), if_neg (by omega), if_pos (by omega)] at hQ; exact hQ
  · rw [if_neg (by omega), if_neg (by omega), if_neg (by omega), if_neg (by simp [c7])] at hQ; exact hQ
  · rw [if_neg (by omega), if_neg (by omega), if_neg (by omega), if_pos c7] at hQ; exact hQ
end
theorem ok15 : OkS Try.prog H0 15 sFCheck := by
  intro args h Q hq
  unfold sFCheck at hq
  split at hq
  · rename_i n pi e g fi nl rs k a f t nl1 acts nl2 ds
    obtain ⟨⟨h0, h1, hl⟩, hQ⟩ := hyp_iff.1 hq
    refine in_ok (S := S10) (U := 6) (k := 6) okS10 (to (nf15 ..) ?_)
    rw [wr (x := 2 * n) (by omega) (by omega)]
    refine br_intro (fun c1 => ?_) fun c1 => br_intro (fun c2 => ?_) fun c2 => br_intro (fun c3 => ?_) fun c3 => br_intro (fun c4 => ?_) fun c4 => br_intro (fun c5 => ?_) fun c5 => ?_
    all_goals simp only [decide_eq_true_eq, decide_eq_false_iff_not, beq_iff_eq, beq_eq_false_iff_ne] at *
    · unfold s_fcheck at hQ; rw [if_pos (by omega)] at hQ; exact hQ
    · unfold s_fcheck at hQ; rw [if_pos (by omega)] at hQ; exact hQ
    · unfold s_fcheck at hQ; rw [if_neg (by omega), if_pos (.inl c3)] at hQ; exact hQ
    · exact tail15 (by omega) c3 (by unfold s_places; rw [if_pos c4]) hl hQ
    · exact tail15 (by omega) c3 (by unfold s_places; rw [if_neg c4, if_pos c5]) hl hQ
    · exact tail15 (by omega) c3 (by unfold s_places; rw [if_neg c4, if_neg c5]) hl hQ
  · exact hq.elim
theorem ok16 : OkS Try.prog H0 16 sFCheck := by
  intro args h Q hq
  unfold sFCheck at hq
  split at hq
  · rename_i n pi e g fi nl rs k a f t nl1 acts nl2 ds
    obtain ⟨⟨h0, h1, hl⟩, hQ⟩ := hyp_iff.1 hq
    refine in_ok (S := S10L) (U := 6) (k := 6) okS10L (to (nf16 ..) ?_)
    rw [wr (x := 2 * n) (by omega) (by omega)]
    refine br_intro (fun c1 => ?_) fun c1 => br_intro (fun c2 => ?_) fun c2 => br_intro (fun c3 => ?_) fun c3 => ?_
    all_goals simp only [beq_iff_eq, beq_eq_false_iff_ne] at *
    · exact tail16 (by omega) (by unfold s_places; rw [if_neg (by omega), if_neg (by omega)]) hl hQ
    · exact tail16 (by omega) (by unfold s_places; rw [if_pos c2]) hl hQ
    · exact tail16 (by omega) (by unfold s_places; rw [if_neg c2, if_pos c3]) hl hQ
    · unfold s_fcheck at hQ; rw [if_pos (by omega)] at hQ; exact hQ
  · exact hq.elim
theorem ints_get (ds : List (List AV)) {i : Nat} (hi : i < ds.length) : ((ds.getD i []).getD 0 AV.gone).toI = (ints ds).getD i 0 := by
  have e1 : ds.getD i [] = ds[i] := by rw [List.getD_eq_getElem?_getD, List.getElem?_eq_getElem hi]; rfl
  have e2 : (ints ds).getD i 0 = (ds[i].getD 0 AV.gone).toI := by unfold ints; rw [List.getD_eq_getElem?_getD, List.getElem?_map, List.getElem?_eq_getElem hi]; rfl
  rw [e1, e2]
theorem ok38 : OkS Try.prog H0 38 sDev := by
  intro args h Q hq
  unfold sDev at hq
  split at hq
  · rename_i n pi e g fi nl rs k a f t nl1 acts nl2 ds ro ow no de
    obtain ⟨⟨h0, h1, h2, h3, h4, h5, h6⟩, hQ⟩ := hyp_iff.1 hq
    refine in_ok (S := S9) (U := 6) (k := 6) okS9 (to (nf38 ..) ?_)
    rw [wr (x := 2 * pi) (by omega) (by omega), wr (x := 3 * (2 * pi)) (by omega) (by omega), wr (x := 0 - 3 * (2 * pi)) (by omega) (by omega), wr (x := 13 * ro) (by omega) (by omega), wr (x := 13 * ro + no) (by omega) (by omega)]
    unfold s_dev at hQ
    have hil : (ints ds).length = ds.length := by simp [ints]
    rw [hil] at hQ
    refine br_intro (fun c1 => ?_) fun c1 => ?_
    · have c1 := beq_iff_eq.1 c1
      refine br_intro (fun c2 => ?_) fun c2 => br_intro (fun c3 => ?_) fun c3 => br_intro (fun c4 => ?_) fun c4 => ?_
      · rw [if_pos (.inr (.inl (by simpa using c2)))] at hQ; exact hQ
      · rw [if_pos (.inr (.inr (.inl (of_decide_eq_true c3))))] at hQ; exact hQ
      · rw [if_pos (.inr (.inr (.inr (of_decide_eq_true c4))))] at hQ; exact hQ
      have c2 : ow = a := by simpa using c2
      have c3 := of_decide_eq_false c3
      have c4 := of_decide_eq_false c4
      rw [if_neg (by omega)] at hQ
      rw [chk_iff]
      refine ⟨by omega, br_intro (fun c5 => ?_) fun c5 => ?_⟩
      · have c5 := of_decide_eq_true c5
        rw [if_pos (by omega)] at hQ; exact hQ
      have c5 := of_decide_eq_false c5
      rw [if_neg (by omega)] at hQ
      have hr := rem_lt (13 * ro + no) (show (0 : Int) < ds.length by omega)
      refine br_intro (fun c6 => ?_) fun c6 => br_intro (fun c7 => ?_) fun c7 => ?_
      · have c6 := of_decide_eq_true c6
        rw [show (s_rem (13 * ro + no) ds.length).toNat = 0 by omega] at hQ
        rw [chk_iff]
        refine ⟨by omega, ?_⟩
        rw [ints_get ds (by omega)]
        generalize (ints ds).getD 0 0 = z at *
        have e : (if 3 * (2 * pi) < (if 0 - 3 * (2 * pi) > z then 0 - 3 * (2 * pi) else z) then 3 * (2 * pi) else (if 0 - 3 * (2 * pi) > z then 0 - 3 * (2 * pi) else z)) = min (max z (-(6 * pi))) (6 * pi) := by
          split <;> split <;> omega
        rw [e]; exact hQ
      · have := of_decide_eq_true c7; omega
      · rw [chk_iff]
        refine ⟨hr, ?_⟩
        rw [ints_get ds (by omega)]
        generalize (ints ds).getD (s_rem (13 * ro + no) ds.length).toNat 0 = z at *
        have e : (if 3 * (2 * pi) < (if 0 - 3 * (2 * pi) > z then 0 - 3 * (2 * pi) else z) then 3 * (2 * pi) else (if 0 - 3 * (2 * pi) > z then 0 - 3 * (2 * pi) else z)) = min (max z (-(6 * pi))) (6 * pi) := by
          split <;> split <;> omega
        rw [e]; exact hQ
    · have c1 := beq_eq_false_iff_ne.1 c1
      rw [if_pos (.inl c1)] at hQ
      exact br_intro (fun _ => hQ) fun _ => hQ
  · exact hq.elim
theorem ok39 : OkS Try.prog H0 39 sDev := by
  intro args h Q hq
  unfold sDev at hq
  split at hq
  · rename_i n pi e g fi nl rs k a f t nl1 acts nl2 ds ro ow no de
    obtain ⟨⟨h0, h1, h2, h3, h4, h5, h6⟩, hQ⟩ := hyp_iff.1 hq
    refine in_ok (S := S9) (U := 6) (k := 6) okS9 (to (nf39 ..) ?_)
    rw [wr (x := 2 * pi) (by omega) (by omega), wr (x := 3 * (2 * pi)) (by omega) (by omega), wr (x := 0 - 3 * (2 * pi)) (by omega) (by omega), wr (x := 13 * ro) (by omega) (by omega), wr (x := 13 * ro + no) (by omega) (by omega)]
    unfold s_dev at hQ
    have hil : (ints ds).length = ds.length := by simp [ints]
    rw [hil] at hQ
    refine br_intro (fun c1 => ?_) fun c1 => br_intro (fun c2 => ?_) fun c2 => br_intro (fun c3 => ?_) fun c3 => br_intro (fun c4 => ?_) fun c4 => br_intro (fun c5 => ?_) fun c5 => ?_
    all_goals simp only [bne_iff_ne, ne_eq, bne_eq_false_iff_eq, decide_eq_true_eq, decide_eq_false_iff_not, beq_iff_eq, beq_eq_false_iff_ne] at *
    · rw [if_pos (.inl c1)] at hQ; exact hQ
    · rw [if_pos (.inr (.inl c2))] at hQ; exact hQ
    · rw [if_pos (.inr (.inr (.inl c3)))] at hQ; exact hQ
    · rw [if_pos (.inr (.inr (.inr c4)))] at hQ; exact hQ
    · rw [if_neg (by omega), if_pos (by omega)] at hQ; exact hQ
    · rw [if_neg (by omega), if_neg (by omega)] at hQ
      have hr := rem_lt (13 * ro + no) (show (0 : Int) < ds.length by omega)
      rw [chk_iff]
      refine ⟨by omega, ?_⟩
      rw [chk_iff]
      refine ⟨hr, ?_⟩
      rw [ints_get ds (by omega)]
      generalize (ints ds).getD (s_rem (13 * ro + no) ds.length).toNat 0 = z at *
      have e : (if (if z < 3 * (2 * pi) then z else 3 * (2 * pi)) > 0 - 3 * (2 * pi) then (if z < 3 * (2 * pi) then z else 3 * (2 * pi)) else 0 - 3 * (2 * pi)) = min (max z (-(6 * pi))) (6 * pi) := by
        split <;> split <;> omega
      rw [e]; exact hQ
  · exact hq.elim
theorem okS11 : OkSp Try.prog H0 S11 := ⟨⟨ok15, ok16, ok38, ok39, okS9.fn⟩, trivial⟩
end Go.Proofs.YtikmaidjpffakaaE
