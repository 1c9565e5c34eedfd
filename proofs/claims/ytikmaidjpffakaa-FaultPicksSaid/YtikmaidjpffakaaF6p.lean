/- What the laws of fault make: the specs hold. -/
import Derived.Test.YtikmaidjpffakaaF6n
namespace Go.Proofs.YtikmaidjpffakaaE
open Go
set_option linter.unusedVariables false
set_option linter.unusedSimpArgs false
set_option maxRecDepth 100000

theorem ok20 : OkS Try.prog H0 20 sEnds := by
  intro args h Q hq
  unfold sEnds at hq
  split at hq
  · rename_i n k
    obtain ⟨⟨h0, h1, h2, h3⟩, hQ⟩ := hyp_iff.1 hq
    refine in_ok (S := S7) (U := 6) (k := 6) okS7 (to (nf20 ..) ?_)
    unfold s_endA s_endB s_rem at hQ
    rw [wr (x := k + 1) (by omega) (by omega), wr (x := k - n) (by omega) (by omega), wr (x := k - n + 2) (by omega) (by omega)]
    refine br_intro (fun c => chk_iff.2 ⟨by omega, ?_⟩) fun c => chk_iff.2 ⟨by omega, ?_⟩
    · have c := of_decide_eq_true c
      rw [if_pos c, if_pos c] at hQ
      rw [Int.tmod_eq_emod_of_nonneg (by omega)]; exact hQ
    · have c := of_decide_eq_false c
      rw [if_neg c, if_neg c] at hQ
      rw [Int.tmod_eq_emod_of_nonneg (by omega)]; exact hQ
  · exact hq.elim
theorem take_succ {rs : List (List AV)} {p : List AV → Prop} {i : Nat} (hi : i < rs.length) (h : ∀ r ∈ rs.take i, p r) (hp : p (rs.getD i [])) : ∀ r ∈ rs.take (i + 1), p r := by
  intro r hr
  rw [List.take_succ_eq_append_getElem hi, List.mem_append] at hr
  rcases hr with hr | hr
  · exact h r hr
  · rw [List.mem_singleton] at hr
    rw [List.getD_eq_getElem?_getD, List.getElem?_eq_getElem hi] at hp
    rw [hr]; exact hp
theorem okLFew : OkLp Try.prog H0 12 2 lFew := by
  refine okLp_of (U := 6) (k := 6) okS7 lFew (fun vals h => match vals, h with | [_, .int _ i], [.box [_, _, _, _, .row _ _ rs, _]] => ((rs.length : Int) - i).toNat | _, _ => 0) fun vals h Q hl => ?_
  unfold lFew at hl
  split at hl
  · rename_i i k a f t nl rs nl2 ds
    obtain ⟨⟨h0, h1, h2, h3⟩, hq1, hq2⟩ := hyp_iff.1 hl
    refine to (nf12a ..) ?_
    refine br_intro (fun hc => chk_iff.2 ⟨⟨h0, of_decide_eq_true hc⟩, br_intro (fun hb => hq2) fun hb => ?_⟩) fun hc => ?_
    · have hc := of_decide_eq_true hc
      rw [wr (x := i + 1) (by omega) (by omega)]
      refine ⟨by show ((rs.length : Int) - (i + 1)).toNat < ((rs.length : Int) - i).toNat; omega, hyp_iff.2 ⟨⟨by omega, by omega, h2, ?_⟩, hq1, hq2⟩⟩
      rw [show (i + 1).toNat = i.toNat + 1 by omega]
      refine take_succ (by omega) h3 ?_
      have hb : ¬ (((actText (rs.getD i.toNat [])).size : Nat) : Int) > 1200 := of_decide_eq_false hb
      omega
    · have hc := of_decide_eq_false hc
      refine hq1 fun r hr => h3 r ?_
      rw [List.take_of_length_le (by omega)]; exact hr
  · exact hl.elim
abbrev muI (n : Int) : List AV → List AObj → Nat := fun vals _ => match vals with | [_, _, _, .int _ i] => (n - i).toNat | _ => 0
theorem okLActs : OkLp Try.prog H0 14 9 lActs := by
  refine okLp_of (U := 6) (k := 6) okS7 lActs (muI 10) fun vals h Q hl => ?_
  unfold lActs at hl
  split at hl
  · rename_i i k a f t nl1 rs nl2 ds z1 z2 z3 z4 k' a' f' t'
    obtain ⟨h0, hq1, hq2⟩ := hyp_iff.1 hl
    subst h0
    refine to (nf14a ..) ?_
    refine br_intro (fun hc => br_intro (fun hc2 => chk_iff.2 ⟨⟨by omega, of_decide_eq_true hc⟩, chk_iff.2 ⟨by constructor <;> split <;> omega, ?_⟩⟩) fun hc2 => absurd hc2 (by simp)) fun hc => hq1
    refine ⟨by show (10 - 1 : Int).toNat < (10 - 0 : Int).toNat; decide, ⟨rfl, by omega, rfl, fun r hr => ?_⟩, hq2⟩
    rw [List.mem_singleton.1 hr]
    refine ⟨_, _, _, rfl, ?_⟩
    rw [ByteArray.size_extract]; split <;> omega
  · rename_i i k a f t nl1 rs nl2 ds z1 z2 z3 z4 k' a' f' t' m rows
    obtain ⟨⟨h0, hm, hl, hr⟩, hq2⟩ := hl
    subst h0
    refine to (nf14b ..) ?_
    have fin := hq2 rows (by omega) hr
    rw [hl] at fin
    refine br_intro (fun hc => br_intro (fun hc2 => chk_iff.2 ⟨⟨by omega, of_decide_eq_true hc⟩, chk_iff.2 ⟨by constructor <;> split <;> omega, ?_⟩⟩) fun hc2 => fin) fun hc => fin
    have hc2 := of_decide_eq_true hc2
    refine chk_iff.2 ⟨hl.symm, chk_iff.2 ⟨by omega, chk_iff.2 ⟨by omega, ?_⟩⟩⟩
    rw [wr (x := (m : Int) + 1) (by omega) (by omega), hl]
    refine ⟨by show (10 - ((m : Int) + 1)).toNat < (10 - (m : Int)).toNat; omega, ⟨by omega, by omega, by rw [List.length_append, hl]; rfl, fun r hr' => ?_⟩, hq2⟩
    rcases List.mem_append.1 hr' with hr' | hr'
    · exact hr r hr'
    · rw [List.mem_singleton.1 hr']
      refine ⟨_, _, _, rfl, ?_⟩
      rw [ByteArray.size_extract]; split <;> omega
  · exact hl.elim
theorem okLDevs : OkLp Try.prog H0 14 15 lDevs := by
  refine okLp_of (U := 6) (k := 6) okS7 lDevs (muI 10) fun vals h Q hl => ?_
  unfold lDevs at hl
  split at hl
  case h_2 => exact hl.elim
  rename_i i k a f t nl1 rs nl2 ds z1 z2 z3 z4 k' a' f' t' A D rest
  unfold lDv at hl
  split at hl
  · obtain ⟨h0, hq1, hq2⟩ := hyp_iff.1 hl
    subst h0
    refine to (nf14c ..) ?_
    refine br_intro (fun hc => br_intro (fun hc2 => chk_iff.2 ⟨⟨by omega, of_decide_eq_true hc⟩, ?_⟩) fun hc2 => absurd hc2 (by simp)) fun hc => hq1
    exact ⟨by show (10 - 1 : Int).toNat < (10 - 0 : Int).toNat; decide, ⟨rfl, by omega, [_], rfl, rfl⟩, hq2⟩
  · rename_i m rows
    obtain ⟨⟨h0, hm, zs, rfl, hl⟩, hq2⟩ := hl
    subst h0
    refine to (nf14d ..) ?_
    have fin := hq2 zs (by omega)
    rw [hl] at fin
    refine br_intro (fun hc => br_intro (fun hc2 => chk_iff.2 ⟨⟨by omega, of_decide_eq_true hc⟩, ?_⟩) fun hc2 => fin) fun hc => fin
    have hc2 := of_decide_eq_true hc2
    rw [irow_len]
    refine chk_iff.2 ⟨hl.symm, chk_iff.2 ⟨by omega, chk_iff.2 ⟨by omega, ?_⟩⟩⟩
    rw [wr (x := (m : Int) + 1) (by omega) (by omega), hl]
    exact ⟨by show (10 - ((m : Int) + 1)).toNat < (10 - (m : Int)).toNat; omega, ⟨by omega, by omega, zs ++ [_], by rw [irow_app]; rfl, by simp [hl]⟩, hq2⟩
  · rename_i m1 rows1
    obtain ⟨h0, hq1, hq2⟩ := hyp_iff.1 hl
    subst h0
    refine to (nf14e ..) ?_
    refine br_intro (fun hc => br_intro (fun hc2 => chk_iff.2 ⟨⟨by omega, of_decide_eq_true hc⟩, ?_⟩) fun hc2 => absurd hc2 (by simp)) fun hc => hq1
    exact ⟨by show (10 - 1 : Int).toNat < (10 - 0 : Int).toNat; decide, ⟨rfl, by omega, [_], rfl, rfl⟩, hq2⟩
  · rename_i m1 m rows1 rows
    obtain ⟨⟨h0, hm, zs, rfl, hl⟩, hq2⟩ := hl
    subst h0
    refine to (nf14f ..) ?_
    have fin := hq2 zs (by omega)
    rw [hl] at fin
    refine br_intro (fun hc => br_intro (fun hc2 => chk_iff.2 ⟨⟨by omega, of_decide_eq_true hc⟩, ?_⟩) fun hc2 => fin) fun hc => fin
    have hc2 := of_decide_eq_true hc2
    rw [irow_len]
    refine chk_iff.2 ⟨hl.symm, chk_iff.2 ⟨by omega, chk_iff.2 ⟨by omega, ?_⟩⟩⟩
    rw [wr (x := (m : Int) + 1) (by omega) (by omega), hl]
    exact ⟨by show (10 - ((m : Int) + 1)).toNat < (10 - (m : Int)).toNat; omega, ⟨by omega, by omega, zs ++ [_], by rw [irow_app]; rfl, by simp [hl]⟩, hq2⟩
  · exact hl.elim
theorem okS8 : OkSp Try.prog H0 S8 := ⟨⟨ok20, okS7.fn⟩, okLFew, okLActs, okLDevs, trivial⟩
theorem ok12 : OkS Try.prog H0 12 sFew := by
  intro args h Q hq
  unfold sFew at hq
  split at hq
  · obtain ⟨h0, hQ⟩ := hyp_iff.1 hq
    refine in_ok (S := S8) (U := 6) (k := 6) okS8 (to (nf12 ..) (hyp_iff.2 ⟨⟨by omega, by omega, h0, fun r hr => by simp at hr⟩, fun hall => br_intro (fun hc => hQ _ fun hb => ?_) fun hc => hQ false (by simp), hQ false (by simp)⟩))
    have hc := of_decide_eq_true hc
    have hb := of_decide_eq_true hb
    exact ⟨by omega, by omega, hall⟩
  · exact hq.elim
theorem ok14 : OkS Try.prog H0 14 s6Make := by
  intro args h Q hq
  unfold s6Make at hq
  split at hq
  · rename_i n pi e g fi nl rs k a f t nl1 acts nl2 ds
    obtain ⟨h0, hQ⟩ := hyp_iff.1 hq
    refine in_ok (S := S8) (U := 6) (k := 6) okS8 (to (nf14 ..) ?_)
    have r1 := rem_lt k (show (0 : Int) < 3 by omega)
    have r2 := rem_lt f (show (0 : Int) < 60 by omega)
    have r3 := rem_lt t (show (0 : Int) < 60 by omega)
    have r4 := rem_lt a (show (0 : Int) < n by omega)
    have r5 := rem_lt a (show (0 : Int) < 2 * n by omega)
    rw [wr (x := 2 * n) (by omega) (by omega), wr (x := s_rem f 60 + s_rem t 60) (by omega) (by omega)]
    have take : ∀ ps : List Int, List.take ps.length (List.drop 0 (List.map (fun n => [AV.int IntKind.i64 n]) ps)) = irow .i64 ps := fun ps => by
      rw [List.drop_zero, List.take_of_length_le (by simp)]; rfl
    have take2 : ∀ l : List (List AV), List.take l.length (List.drop 0 l) = l := fun l => by rw [List.drop_zero, List.take_length]
    have take3 : ∀ ps : List Int, 0 + ps.length ≤ (List.map (fun n => [AV.int IntKind.i64 n]) ps).length := fun ps => by simp
    have take4 : ∀ l : List (List AV), 0 + l.length ≤ l.length := fun l => by omega
    -- the four ends, whatever the place is
    have fin : ∀ (kk aa : Int), 0 ≤ kk → kk ≤ 2 → (kk = 0 → aa = 0) → (kk = 1 → 0 ≤ aa ∧ aa < n) → (kk = 2 → 0 ≤ aa ∧ aa < 2 * n) →
        ((Q (.agg [.int .i64 kk, .int .i64 aa, .int .i64 (s_rem f 60), .int .i64 (s_rem f 60 + s_rem t 60), .row true [.int .i64, .int .i64, .str] [], .row true [.int .i64] []], [])) ∧
        (∀ zs : List Int, zs.length ≤ 10 → Q (.agg [.int .i64 kk, .int .i64 aa, .int .i64 (s_rem f 60), .int .i64 (s_rem f 60 + s_rem t 60), .row true [.int .i64, .int .i64, .str] [], .row false [.int .i64] (irow .i64 zs)], [])) ∧
        (∀ rows : List (List AV), rows.length ≤ 10 → (∀ r ∈ rows, s_actR r) → Q (.agg [.int .i64 kk, .int .i64 aa, .int .i64 (s_rem f 60), .int .i64 (s_rem f 60 + s_rem t 60), .row false [.int .i64, .int .i64, .str] rows, .row true [.int .i64] []], [])) ∧
        (∀ rows : List (List AV), rows.length ≤ 10 → (∀ r ∈ rows, s_actR r) → ∀ zs : List Int, zs.length ≤ 10 → Q (.agg [.int .i64 kk, .int .i64 aa, .int .i64 (s_rem f 60), .int .i64 (s_rem f 60 + s_rem t 60), .row false [.int .i64, .int .i64, .str] rows, .row false [.int .i64] (irow .i64 zs)], []))) := by
      intro kk aa a1 a2 a3 a4 a5
      refine ⟨hQ _ _ _ _ true true [] [] ?_, fun zs hz => hQ _ _ _ _ true false [] zs ?_, fun rows hr ha => hQ _ _ _ _ false true rows [] ?_, fun rows hr ha zs hz => hQ _ _ _ _ false false rows zs ?_⟩
      all_goals refine ⟨a1, a2, by omega, by omega, by omega, by omega, a3, a4, a5, ?_⟩
      · exact ⟨by simp, fun r hr => by simp at hr, by simp⟩
      · exact ⟨by simp, fun r hr => by simp at hr, hz⟩
      · exact ⟨hr, ha, by simp⟩
      · exact ⟨hr, ha, hz⟩
    refine br_intro (fun c => chk_iff.2 ⟨by omega, ?_⟩) fun c => br_intro (fun c2 => chk_iff.2 ⟨by omega, ?_⟩) fun c2 => ?_
    · have c := beq_iff_eq.1 c
      obtain ⟨e1, e2, e3, e4⟩ := fin (s_rem k 3) (s_rem a n) r1.1 (by omega) (by omega) (fun _ => r4) (by omega)
      refine ⟨.mk rfl, ⟨.mk rfl, e1, fun zs hz => chk_iff.2 ⟨take3 zs, ?_⟩⟩, fun rows hr ha => ⟨.mk rfl, chk_iff.2 ⟨take4 rows, ?_⟩, fun zs hz => chk_iff.2 ⟨take4 rows, chk_iff.2 ⟨take3 zs, ?_⟩⟩⟩⟩
      · rw [take]; exact e2 zs hz
      · rw [take2]; exact e3 rows hr ha
      · rw [take, take2]; exact e4 rows hr ha zs hz
    · have c2 := beq_iff_eq.1 c2
      obtain ⟨e1, e2, e3, e4⟩ := fin (s_rem k 3) (s_rem a (2 * n)) r1.1 (by omega) (by omega) (by omega) (fun _ => r5)
      refine ⟨.mk rfl, ⟨.mk rfl, e1, fun zs hz => chk_iff.2 ⟨take3 zs, ?_⟩⟩, fun rows hr ha => ⟨.mk rfl, chk_iff.2 ⟨take4 rows, ?_⟩, fun zs hz => chk_iff.2 ⟨take4 rows, chk_iff.2 ⟨take3 zs, ?_⟩⟩⟩⟩
      · rw [take]; exact e2 zs hz
      · rw [take2]; exact e3 rows hr ha
      · rw [take, take2]; exact e4 rows hr ha zs hz
    · have c := beq_eq_false_iff_ne.1 c
      have c2 := beq_eq_false_iff_ne.1 c2
      obtain ⟨e1, e2, e3, e4⟩ := fin (s_rem k 3) 0 r1.1 (by omega) (fun _ => rfl) (by omega) (by omega)
      refine ⟨.mk rfl, ⟨.mk rfl, e1, fun zs hz => chk_iff.2 ⟨take3 zs, ?_⟩⟩, fun rows hr ha => ⟨.mk rfl, chk_iff.2 ⟨take4 rows, ?_⟩, fun zs hz => chk_iff.2 ⟨take4 rows, chk_iff.2 ⟨take3 zs, ?_⟩⟩⟩⟩
      · rw [take]; exact e2 zs hz
      · rw [take2]; exact e3 rows hr ha
      · rw [take, take2]; exact e4 rows hr ha zs hz
  · exact hq.elim
theorem okS9 : OkSp Try.prog H0 S9 := ⟨⟨ok12, ok14, ok20, okS7.fn⟩, trivial⟩
end Go.Proofs.YtikmaidjpffakaaE
