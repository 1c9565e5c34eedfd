/- Rows and texts of a stream of bytes: the specs hold. -/
import Derived.Test.YthihinlamlamhaaG2n
namespace Go.Proofs.YthihinlamlamhaaE
open Go
set_option linter.unusedVariables false
set_option linter.unusedSimpArgs false
set_option maxRecDepth 100000

theorem irow_len (k : IntKind) (l : List Int) : (irow k l).length = l.length := by simp [irow]
theorem ok43 : OkS Try.prog H0 43 sNext := by
  intro args h Q hq
  unfold sNext at hq
  split at hq
  · rename_i nl rs
    refine in_ok (S := S1) (U := 6) (k := 6) okS1 (to (nf43 ..) ?_)
    unfold s_hd s_drop at hq
    refine br_intro (fun c => ?_) fun c => ?_
    · have c := beq_iff_eq.1 c
      have : rs = [] := List.eq_nil_of_length_eq_zero (by omega)
      subst this
      exact hq
    · have c := beq_eq_false_iff_ne.1 c
      rw [if_neg (by omega)] at hq
      rw [chk_iff, chk_iff]
      refine ⟨by omega, by omega, ?_⟩
      rw [List.take_length]; exact hq
  · exact hq.elim
theorem okS2 : OkSp Try.prog H0 S2 := ⟨⟨ok43, okS1.fn⟩, trivial⟩
theorem ok22 : OkS Try.prog H0 22 sOf := by
  intro args h Q hq
  unfold sOf at hq
  split at hq
  · exact in_ok (S := S2) (U := 6) (k := 6) okS2 (to (nf22 ..) hq)
  · exact hq.elim
theorem okS3 : OkSp Try.prog H0 S3 := ⟨⟨ok22, okS2.fn⟩, trivial⟩
theorem at_succ (rs : List (List AV)) (i : Nat) : s_at rs (i + 1) = s_at (s_drop 1 rs) i := by
  unfold s_at s_drop; rw [List.drop_drop, Nat.add_comm]
theorem on_succ (rs : List (List AV)) (n : Nat) : s_on rs (n + 1) = (s_hd rs).tmod 24 :: s_on (s_drop 1 rs) n := by
  unfold s_on
  rw [List.range_succ_eq_map, List.map_cons, List.map_map]
  congr 1
  exact List.map_congr_left fun i _ => by simp only [Function.comp]; rw [at_succ]
theorem sg_succ (rs : List (List AV)) (t : Int) (n : Nat) : s_sg rs t (n + 1) = IntKind.i64.wrap (IntKind.i64.wrap (s_hd rs - 128) * t) :: s_sg (s_drop 1 rs) t n := by
  unfold s_sg
  rw [List.range_succ_eq_map, List.map_cons, List.map_map]
  congr 1
  exact List.map_congr_left fun i _ => by simp only [Function.comp]; rw [at_succ]
theorem drop_succ (rs : List (List AV)) (n : Nat) : s_drop n (s_drop 1 rs) = s_drop (n + 1) rs := by
  unfold s_drop; rw [List.drop_drop, Nat.add_comm]
theorem set_one {rows : List (List AV)} {i : Nat} {x : AV} (hi : i < rows.length) (h1 : ∀ r ∈ rows, r.length = 1) : rows.set (0 + i) (x :: List.drop (0 + 1) (rows.getD (0 + i) [])) = rows.set i [x] := by
  have : (rows.getD i []).length = 1 := by
    have := h1 (rows[i]) (List.getElem_mem hi)
    rw [List.getD_eq_getElem?_getD, List.getElem?_eq_getElem hi]; exact this
  rw [Nat.zero_add, List.drop_eq_nil_of_le (by rw [this]; omega)]
theorem set_take {rows : List (List AV)} {i : Nat} {x : List AV} (hi : i < rows.length) : (rows.set i x).take (i + 1) = rows.take i ++ [x] := by
  rw [List.take_succ_eq_append_getElem (by rw [List.length_set]; exact hi), List.take_set_of_le (by omega)]
  simp
theorem set_mem {rows : List (List AV)} {i : Nat} {x : AV} (h1 : ∀ r ∈ rows, r.length = 1) : ∀ r ∈ rows.set i [x], r.length = 1 := fun r hr => by
  rcases List.mem_or_eq_of_mem_set hr with h | h
  · exact h1 r h
  · rw [h]; rfl
abbrev muR : List AV → List AObj → Nat := fun vals _ => match vals with | [_, _, .int _ m, .int _ i] => (m - i).toNat | _ => 0
theorem okLRowA : OkLp Try.prog H0 23 2003 lRowA := by
  refine okLp_of (U := 6) (k := 6) okS3 lRowA muR fun vals h Q hl => ?_
  unfold lRowA at hl
  split at hl
  · rename_i n m i nl rs rows
    obtain ⟨⟨hm, h0, h1, h2, h3, h4⟩, hq⟩ := hyp_iff.1 hl
    subst hm
    refine to (nf23c ..) (br_intro (fun hc => ?_) fun hc => ?_)
    · have hc := of_decide_eq_true hc
      rw [chk_iff, chk_iff]
      refine ⟨by omega, by omega, ?_⟩
      rw [set_one (by omega) h4, wr (x := i + 1) (by omega) (by omega)]
      refine ⟨by show ((n : Int) - (i + 1)).toNat < ((n : Int) - i).toNat; omega, .mk ⟨rfl, by omega, by omega, h2, by rw [List.length_set]; exact h3, set_mem h4⟩, fun rows' hr => ?_⟩
      have e : n - i.toNat = (n - (i + 1).toNat) + 1 := by omega
      rw [drop_succ, ← e]
      refine hq rows' ?_
      rw [hr, show (i + 1).toNat = i.toNat + 1 by omega, set_take (by omega), show n - i.toNat = (n - (i.toNat + 1)) + 1 by omega, on_succ]
      simp [irow]
    · have hc := of_decide_eq_false hc
      have e : n - i.toNat = 0 := by omega
      rw [e] at hq
      have := hq rows (by rw [List.take_of_length_le (by omega)]; simp [s_on, irow])
      exact this
  · exact hl.elim
theorem okLRowB : OkLp Try.prog H0 23 3003 lRowB := by
  refine okLp_of (U := 6) (k := 6) okS3 lRowB muR fun vals h Q hl => ?_
  unfold lRowB at hl
  split at hl
  · rename_i n m i nl rs t rows
    obtain ⟨⟨hm, h0, h1, h2, h3, h4⟩, hq⟩ := hyp_iff.1 hl
    subst hm
    refine to (nf23d ..) (br_intro (fun hc => ?_) fun hc => ?_)
    · have hc := of_decide_eq_true hc
      rw [chk_iff, chk_iff]
      refine ⟨by omega, by omega, ?_⟩
      rw [set_one (by omega) h4, wr (x := i + 1) (by omega) (by omega)]
      refine ⟨by show ((n : Int) - (i + 1)).toNat < ((n : Int) - i).toNat; omega, .mk ⟨rfl, by omega, by omega, h2, by rw [List.length_set]; exact h3, set_mem h4⟩, fun rows' hr => ?_⟩
      have e : n - i.toNat = (n - (i + 1).toNat) + 1 := by omega
      rw [drop_succ, ← e]
      refine hq rows' ?_
      rw [hr, show (i + 1).toNat = i.toNat + 1 by omega, set_take (by omega), show n - i.toNat = (n - (i.toNat + 1)) + 1 by omega, sg_succ]
      simp [irow]
    · have hc := of_decide_eq_false hc
      have e : n - i.toNat = 0 := by omega
      rw [e] at hq
      have := hq rows (by rw [List.take_of_length_le (by omega)]; simp [s_sg, irow])
      exact this
  · exact hl.elim
theorem hd_le {rs : List (List AV)} (h : s_bytes rs) : 0 ≤ s_hd rs ∧ s_hd rs ≤ 255 := by
  unfold s_hd
  split
  · omega
  · rename_i hl
    have := h (rs.getD 0 []) (by rw [List.getD_eq_getElem?_getD, List.getElem?_eq_getElem (by omega : 0 < rs.length)]; simp)
    rw [wr (by omega) (by omega)]; exact this
theorem bytes_drop {rs : List (List AV)} (n : Nat) (h : s_bytes rs) : s_bytes (s_drop n rs) := fun r hr => h r (List.mem_of_mem_drop hr)
theorem text_drop (rs : List (List AV)) : ∀ (k p : Nat) (s : ByteArray), s_text (s_drop 1 rs) k p s = s_text rs k (p + 1) s
  | 0, _, _ => rfl
  | k + 1, p, s => by simp only [s_text]; rw [text_drop rs k, at_succ]
theorem okLText : OkLp Try.prog H0 45 1003 lText := by
  refine okLp_of (U := 6) (k := 6) okS3 lText (fun vals _ => match vals with | [_, _, .int _ m, .int _ i] => (m - i).toNat | _ => 0) fun vals h Q hl => ?_
  unfold lText at hl
  split at hl
  · rename_i s m i nl rs
    obtain ⟨⟨h0, h1, h2, h3, h4⟩, hq⟩ := hyp_iff.1 hl
    refine to (nf45a ..) (br_intro (fun hc => ?_) fun hc => ?_)
    · have hc := of_decide_eq_true hc
      have hb := hd_le h4
      have hr := Int.tmod_nonneg 3 hb.1
      have hr2 := Int.tmod_lt_of_pos (s_hd rs) (show (0 : Int) < 3 by omega)
      have key : Utf8.encode ((((ByteArray.mk #[(48 : UInt8), (49 : UInt8), (35 : UInt8)]).data.toList.getD ((s_hd rs).tmod (3 : Int)).toNat (0 : UInt8)).toNat : Nat) : Int) = (if (s_hd rs).tmod 3 = 0 then ⟨#[48]⟩ else if (s_hd rs).tmod 3 = 1 then ⟨#[49]⟩ else ⟨#[35]⟩ : ByteArray) := by
        have : (s_hd rs).tmod 3 = 0 ∨ (s_hd rs).tmod 3 = 1 ∨ (s_hd rs).tmod 3 = 2 := by omega
        rcases this with e | e | e <;> rw [e] <;> decide +kernel
      have hsz : (if (s_hd rs).tmod 3 = 0 then ⟨#[48]⟩ else if (s_hd rs).tmod 3 = 1 then ⟨#[49]⟩ else ⟨#[35]⟩ : ByteArray).size = 1 := by
        split
        · rfl
        · split <;> rfl
      rw [chk_iff, chk_iff, key]
      rw [show (m - i).toNat = (m - (i + 1)).toNat + 1 by omega] at hq
      simp only [s_text] at hq
      have ha : s_at rs 0 = s_hd rs := by unfold s_at; rw [List.drop_zero]
      rw [ha] at hq
      generalize (if (s_hd rs).tmod 3 = 0 then ⟨#[48]⟩ else if (s_hd rs).tmod 3 = 1 then ⟨#[49]⟩ else ⟨#[35]⟩ : ByteArray) = u at *
      refine ⟨⟨hr, hr2⟩, by rw [hsz, Nat.ble_eq]; omega, ?_⟩
      rw [wr (x := i + 1) (by omega) (by omega)]
      refine ⟨by show (m - (i + 1)).toNat < (m - i).toNat; omega, .mk ⟨by omega, by omega, h2, by rw [ByteArray.size_append, hsz]; omega, bytes_drop 1 h4⟩, ?_⟩
      rw [text_drop, drop_succ]; exact hq
    · have hc := of_decide_eq_false hc
      rw [show (m - i).toNat = 0 by omega] at hq
      exact hq
  · exact hl.elim
theorem okS3L : OkSp Try.prog H0 S3L := ⟨okS3.fn, okLRowA, okLRowB, okLText, trivial⟩
theorem on_len (rs : List (List AV)) (n : Nat) : (s_on rs n).length = n := by simp [s_on]
theorem sg_len (rs : List (List AV)) (t : Int) (n : Nat) : (s_sg rs t n).length = n := by simp [s_sg]
theorem ok23 : OkS Try.prog H0 23 sRow := by
  intro args h Q hq
  unfold sRow at hq
  split at hq
  · rename_i n nl rs
    obtain ⟨h0, hQ⟩ := hyp_iff.1 hq
    refine in_ok (S := S3L) (U := 6) (k := 6) okS3L (to (nf23a ..) ?_)
    rw [chk_iff, chk_iff]
    refine ⟨by omega, by omega, .mk ⟨rfl, by omega, by omega, by omega, by simp, fun r hr => by rw [List.eq_of_mem_replicate hr]; rfl⟩, fun rows' hr => ?_⟩
    have hr2 : rows' = irow .i64 (s_on rs n.toNat) := hr
    subst hr2
    rw [chk_iff, irow_len, on_len, List.drop_zero, List.take_of_length_le (by rw [irow_len, on_len]; omega)]
    exact ⟨by omega, hQ⟩
  · rename_i n nl rs t
    obtain ⟨h0, hQ⟩ := hyp_iff.1 hq
    refine in_ok (S := S3L) (U := 6) (k := 6) okS3L (to (nf23b ..) ?_)
    rw [chk_iff, chk_iff]
    refine ⟨by omega, by omega, .mk ⟨rfl, by omega, by omega, by omega, by simp, fun r hr => by rw [List.eq_of_mem_replicate hr]; rfl⟩, fun rows' hr => ?_⟩
    have hr2 : rows' = irow .i64 (s_sg rs t n.toNat) := hr
    subst hr2
    rw [chk_iff, irow_len, sg_len, List.drop_zero, List.take_of_length_le (by rw [irow_len, sg_len]; omega)]
    exact ⟨by omega, hQ⟩
  · exact hq.elim
theorem ok45 : OkS Try.prog H0 45 sText := by
  intro args h Q hq
  unfold sText at hq
  split at hq
  · rename_i nl rs
    obtain ⟨h0, hQ⟩ := hyp_iff.1 hq
    have hb := hd_le h0
    have hr := Int.tmod_nonneg 4 hb.1
    have hr2 := Int.tmod_lt_of_pos (s_hd rs) (show (0 : Int) < 4 by omega)
    refine in_ok (S := S3L) (U := 6) (k := 6) okS3L (to (nf45 ..) ⟨.mk ⟨by omega, hr, by omega, rfl, bytes_drop 1 h0⟩, ?_⟩)
    rw [text_drop, drop_succ, Int.sub_zero, show ((s_hd rs).tmod 4).toNat + 1 = 1 + ((s_hd rs).tmod 4).toNat from Nat.add_comm ..]; exact hQ
  · exact hq.elim
theorem okS4 : OkSp Try.prog H0 S4 := ⟨⟨ok23, ok45, okS3.fn⟩, trivial⟩
end Go.Proofs.YthihinlamlamhaaE
