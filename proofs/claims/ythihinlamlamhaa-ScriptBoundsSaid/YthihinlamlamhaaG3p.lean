/- Acts, loci, calls: the specs hold. -/
import Derived.Test.YthihinlamlamhaaG3n
namespace Go.Proofs.YthihinlamlamhaaE
open Go
set_option linter.unusedVariables false
set_option linter.unusedSimpArgs false
set_option maxRecDepth 100000

theorem dd (a b : Nat) (rs : List (List AV)) : s_drop a (s_drop b rs) = s_drop (b + a) rs := by unfold s_drop; rw [List.drop_drop]
theorem hd0 (rs : List (List AV)) : s_hd rs = s_at rs 0 := by unfold s_at; rw [List.drop_zero]
theorem at_drop (k i : Nat) (rs : List (List AV)) : s_at (s_drop k rs) i = s_at rs (k + i) := by unfold s_at s_drop; rw [List.drop_drop]
theorem text_drop' (rs : List (List AV)) (a : Nat) : ∀ (k p : Nat) (s : ByteArray), s_text (s_drop a rs) k p s = s_text rs k (a + p) s
  | 0, _, _ => rfl
  | k + 1, p, s => by simp only [s_text]; rw [text_drop' rs a k, at_drop, Nat.add_assoc]
theorem at_le {rs : List (List AV)} (h : s_bytes rs) (i : Nat) : 0 ≤ s_at rs i ∧ s_at rs i ≤ 255 := hd_le (bytes_drop i h)
theorem at_mod {rs : List (List AV)} (h : s_bytes rs) (i : Nat) {n : Int} (hn : 0 < n) : 0 ≤ (s_at rs i).tmod n ∧ (s_at rs i).tmod n < n := ⟨Int.tmod_nonneg n (at_le h i).1, Int.tmod_lt_of_pos _ hn⟩
theorem ok26 : OkS Try.prog H0 26 sCallS := by
  intro args h Q hq
  unfold sCallS at hq
  split at hq
  · rename_i n pi e g fi nl ps nl2 rs
    obtain ⟨⟨h0, h1⟩, hQ⟩ := hyp_iff.1 hq
    refine in_ok (S := S4) (U := 6) (k := 6) okS4 (to (nf26 ..) ?_)
    simp only [dd, hd0, at_drop, Nat.reduceAdd]
    rw [wr (x := 1 + (ps.length : Int)) (by omega) (by omega), chk_iff, chk_iff, Int.add_comm 1]
    exact ⟨h0, by omega, hQ⟩
  · exact hq.elim
theorem get_set {rows : List (List AV)} {i : Nat} (x : List AV) (hi : i < rows.length) : (rows.set i x).getD i [] = x := by
  rw [List.getD_eq_getElem?_getD, List.getElem?_set_self hi]; rfl
theorem okLFActs : OkLp Try.prog H0 25 1012 lFActs := by
  refine okLp_of (U := 6) (k := 6) okS4 lFActs (fun vals _ => match vals with | [_, _, _, .int _ m, .int _ i] => (m - i).toNat | _ => 0) fun vals h Q hl => ?_
  unfold lFActs at hl
  split at hl
  · rename_i m i nl rs z1 z2 z3 z4 k a f t n rows
    obtain ⟨⟨hm, h0, h1, h2, h3, h4, h5⟩, hq⟩ := hyp_iff.1 hl
    subst hm
    refine to (nf25a ..) (br_intro (fun hc => ?_) fun hc => ?_)
    · have hc := of_decide_eq_true hc
      have hi : i.toNat < rows.length := by omega
      simp only [dd, hd0, at_drop, Nat.reduceAdd, Nat.zero_add, List.length_set]
      obtain ⟨x, y, z, hr⟩ : ∃ x y z, rows.getD i.toNat [] = [x, y, z] := by
        have := h4 (rows[i.toNat]) (List.getElem_mem hi)
        have e : rows.getD i.toNat [] = rows[i.toNat] := by rw [List.getD_eq_getElem?_getD, List.getElem?_eq_getElem hi]; rfl
        rw [e]
        match rows[i.toNat], this with
        | [x, y, z], _ => exact ⟨x, y, z, rfl⟩
      have hi2 : ∀ x : List AV, i.toNat < (rows.set i.toNat x).length := fun x => by rw [List.length_set]; exact hi
      simp only [hr, get_set _ hi, get_set _ (hi2 _), List.set_set]
      rw [chk_iff, chk_iff, chk_iff, chk_iff, chk_iff, chk_iff]
      have hi3 : (0 : Int) ≤ i ∧ i < n := by omega
      refine ⟨hi3, hi, hi3, hi, .mk (bytes_drop 2 h5), hi3, hi, ?_⟩
      rw [wr (x := i + 1) (by omega) (by omega)]
      refine ⟨by show ((n : Int) - (i + 1)).toNat < ((n : Int) - i).toNat; omega, ?_⟩
      have hact : (setAll (setAll (AV.int IntKind.i64 ((s_at rs 0).tmod 7) :: List.drop 1 [x, y, z]) 1 [AV.int IntKind.i64 (s_at rs 1)]) 2 [AV.str (s_text (s_drop 2 rs) ((s_at rs 2).tmod 4).toNat 1 (ByteArray.mk #[]))]) = s_act rs := by
        rw [text_drop']; rfl
      rw [hact]
      have hn : 2 + (1 + ((s_at rs 2).tmod 4).toNat) = s_actN rs := by unfold s_actN; omega
      rw [hn]
      refine ⟨.mk ⟨rfl, by omega, by omega, h2, by rw [List.length_set]; exact h3, fun r hr => ?_, bytes_drop _ h5⟩, fun rows' hr => ?_⟩
      · rcases List.mem_or_eq_of_mem_set hr with h | h
        · exact h4 r h
        · rw [h]; rfl
      · have e : n - i.toNat = (n - (i + 1).toNat) + 1 := by omega
        rw [e] at hq
        simp only [s_acts, s_actsN] at hq
        rw [dd]
        refine hq rows' ?_
        rw [hr, show (i + 1).toNat = i.toNat + 1 by omega, set_take hi]
        simp
    · have hc := of_decide_eq_false hc
      have e : n - i.toNat = 0 := by omega
      rw [e] at hq
      exact hq rows (by rw [List.take_of_length_le (by omega)]; simp [s_acts])
  · exact hl.elim
theorem okS4L : OkSp Try.prog H0 S4L := ⟨okS4.fn, okLFActs, trivial⟩
theorem acts_len (k : Nat) : ∀ rs : List (List AV), (s_acts rs k).length = k := by
  induction k with
  | zero => intro rs; rfl
  | succ k ih => intro rs; simp [s_acts, ih]
theorem sg_lit (rs : List (List AV)) (k : Nat) (t : Int) : irow .i64 (s_sg (s_drop k rs) t 4) = [[.int .i64 (IntKind.i64.wrap (IntKind.i64.wrap (s_at rs (k + 0) - 128) * t))], [.int .i64 (IntKind.i64.wrap (IntKind.i64.wrap (s_at rs (k + 1) - 128) * t))],
    [.int .i64 (IntKind.i64.wrap (IntKind.i64.wrap (s_at rs (k + 2) - 128) * t))], [.int .i64 (IntKind.i64.wrap (IntKind.i64.wrap (s_at rs (k + 3) - 128) * t))]] := by
  have : ∀ i, s_at (s_drop k rs) i = s_at rs (k + i) := fun i => at_drop k i rs
  simp only [← this]
  rfl
theorem ok25 : OkS Try.prog H0 25 sFaultS := by
  intro args h Q hq
  unfold sFaultS at hq
  split at hq
  · rename_i n pi e g fi nl ps nl2 rs
    obtain ⟨⟨h0, h1, h2⟩, hQ⟩ := hyp_iff.1 hq
    refine in_ok (S := S4L) (U := 6) (k := 6) okS4L (to (nf25 ..) ?_)
    simp only [dd, hd0, at_drop, Nat.reduceAdd]
    have r0 := at_mod h2 0 (show (0 : Int) < 3 by omega)
    have r2 := at_mod h2 2 (show (0 : Int) < 60 by omega)
    have r3 := at_mod h2 3 (show (0 : Int) < 60 by omega)
    have r4 := at_mod h2 4 (show (0 : Int) < 8 by omega)
    rw [wr (x := 2 * n) (by omega) (by omega), wr (x := (s_at rs 2).tmod 60 + (s_at rs 3).tmod 60) (by omega) (by omega)]
    have hrep : s_len3 (List.replicate ((s_at rs 4).tmod 8).toNat [AV.int IntKind.i64 0, AV.int IntKind.i64 0, AV.str (ByteArray.mk #[])]) := fun r hr => by rw [List.eq_of_mem_replicate hr]; rfl
    have hb5 := bytes_drop 5 h2
    rw [sg_lit] at hQ
    unfold s_fN s_fA s_fat at hQ
    have hlen := acts_len ((s_at rs 4).tmod 8).toNat (s_drop 5 rs)
    refine br_intro (fun c => ?_) fun c => br_intro (fun c2 => ?_) fun c2 => ?_
    all_goals simp only [beq_iff_eq, beq_eq_false_iff_ne] at *
    · rw [if_pos c] at hQ
      rw [chk_iff, chk_iff, chk_iff]
      refine ⟨by omega, by omega, by omega, .mk ⟨trivial, by omega, by omega, by omega, by simp, hrep, hb5⟩, fun rows' hr => ⟨.mk (by omega), ?_⟩⟩
      rw [List.nil_append, Nat.sub_zero] at hr
      subst hr
      rw [chk_iff, Nat.sub_zero, List.drop_zero, List.take_of_length_le (by omega)]
      exact ⟨by omega, hQ⟩
    · rw [if_neg c, if_pos c2] at hQ
      rw [chk_iff, chk_iff, chk_iff]
      refine ⟨by omega, by omega, by omega, .mk ⟨trivial, by omega, by omega, by omega, by simp, hrep, hb5⟩, fun rows' hr => ⟨.mk (by omega), ?_⟩⟩
      rw [List.nil_append, Nat.sub_zero] at hr
      subst hr
      rw [chk_iff, Nat.sub_zero, List.drop_zero, List.take_of_length_le (by omega)]
      exact ⟨by omega, hQ⟩
    · rw [if_neg c, if_neg c2] at hQ
      rw [chk_iff, chk_iff]
      refine ⟨by omega, by omega, .mk ⟨trivial, by omega, by omega, by omega, by simp, hrep, hb5⟩, fun rows' hr => ⟨.mk (by omega), ?_⟩⟩
      rw [List.nil_append, Nat.sub_zero] at hr
      subst hr
      rw [chk_iff, Nat.sub_zero, List.drop_zero, List.take_of_length_le (by omega)]
      exact ⟨by omega, hQ⟩
  · exact hq.elim
theorem okS5 : OkSp Try.prog H0 S5 := ⟨⟨ok25, ok26, okS4.fn⟩, trivial⟩
end Go.Proofs.YthihinlamlamhaaE
