/- The specs hold, more. -/
import Derived.Test.YtikmaidjpffakaaF2n
import Derived.Laws.RangeAny
import Derived.Laws.RangeString
namespace Go.Proofs.YtikmaidjpffakaaE
open Go
set_option linter.unusedVariables false
set_option linter.unusedSimpArgs false
set_option maxRecDepth 100000

theorem drop_cons {s : ByteArray} {p : Nat} (h : p < s.size) : s.data.toList.drop p = s[p] :: s.data.toList.drop (p + 1) := by
  have h' : p < s.data.toList.length := by simpa using h
  rw [List.drop_eq_getElem_cons h']
  congr 1
theorem toNat_eq {b : UInt8} {n : Nat} (h : b.toNat = n) : b = UInt8.ofNat n := by
  have : b = UInt8.ofNat b.toNat := by simp
  rw [this, h]
/-- What the front's end is, by the byte at hand. -/
theorem clean_step {s : ByteArray} {p : Nat} (hp : p < s.size) (he : cleanN s.data.toList = p + cleanN (s.data.toList.drop p)) :
    (s[p].toNat = 35 → s_clean s = s.extract 0 (p + 1)) ∧ (s[p].toNat = 48 ∨ s[p].toNat = 49 → cleanN s.data.toList = (p + 1) + cleanN (s.data.toList.drop (p + 1))) ∧
      (s[p].toNat ≠ 35 → s[p].toNat ≠ 48 → s[p].toNat ≠ 49 → s_clean s = s.extract 0 p) := by
  rw [drop_cons hp] at he
  refine ⟨fun h => ?_, fun h => ?_, fun h1 h2 h3 => ?_⟩
  · have hb : s[p] = 35 := toNat_eq h
    simp only [cleanN, hb, if_true] at he
    unfold s_clean; rw [he]
  · have hb : s[p] = 48 ∨ s[p] = 49 := h.imp toNat_eq toNat_eq
    have h35 : s[p] ≠ 35 := by rcases hb with hb | hb <;> rw [hb] <;> decide
    simp only [cleanN, if_neg h35, if_pos hb] at he
    omega
  · have a1 : s[p] ≠ 35 := fun e => h1 (by rw [e]; rfl)
    have a2 : ¬ (s[p] = 48 ∨ s[p] = 49) := fun e => e.elim (fun e => h2 (by rw [e]; rfl)) fun e => h3 (by rw [e]; rfl)
    simp only [cleanN, if_neg a1, if_neg a2] at he
    unfold s_clean; rw [he]; rfl
theorem clean_end {s : ByteArray} (he : cleanN s.data.toList = s.size) : s_clean s = s := by
  unfold s_clean
  rw [he]
  exact ByteArray.extract_zero_size ..
theorem okLCleanP : OkLp Try.prog H0 69 2 lCleanP := by
  refine okLp_of (U := 6) (k := 6) okS0 lCleanP (fun _ h => match h with | [.iter s p] => s.size - p | _ => 0) fun vals h Q hl => ?_
  unfold lCleanP at hl
  split at hl
  · rename_i s s' p
    obtain ⟨⟨rfl, h1, hz, he⟩, hq1, hq2⟩ := hyp_iff.1 hl
    refine to (nf69a ..) (br_intro (fun hc => ?_) fun hc => ?_)
    · have hp := of_decide_eq_true hc
      obtain ⟨c1, c2, c3⟩ := clean_step hp he
      have w2 : IntKind.i64.wrap ((p : Int) + 1) = ((p + 1 : Nat) : Int) := wr (by omega) (by omega)
      rw [w2]
      have hnext : s'[p].toNat = 48 ∨ s'[p].toNat = 49 → (Utf8.decode s' p).2 = 1 → stepQ lCleanP (fun _ h => match h with | [.iter s p] => s.size - p | _ => 0) [.str s', .ptr 0 0] [.iter s' p] Q .nrm [.str s', .ptr 0 0] [.iter s' (p + (Utf8.decode s' p).2)] := fun hb hw => by
        rw [hw]
        exact ⟨by show s'.size - (p + 1) < s'.size - p; omega, hyp_iff.2 ⟨⟨rfl, by omega, hz, c2 hb⟩, hq1, hq2⟩⟩
      by_cases ha : s'[p].toNat < 128
      · have hd := decode_ascii s' p hp ha
        rw [hd] at hnext ⊢
        refine br_intro (fun h35 => ?_) fun h35 => br_intro (fun h48 => ?_) fun h48 => br_intro (fun h49 => ?_) fun h49 => ?_
        · refine chk_iff.2 ⟨by omega, ?_⟩
          have := c1 (by simp only [Bool.not_eq_true', Bool.not_eq_false', beq_iff_eq, beq_eq_false_iff_ne] at h35; omega)
          rw [show ((p + 1 : Nat) : Int).toNat = p + 1 by omega, ← this]; exact hq2
        · exact hnext (.inl (by simp only [Bool.not_eq_true', Bool.not_eq_false', beq_iff_eq, beq_eq_false_iff_ne] at h48; omega)) rfl
        · refine chk_iff.2 ⟨by omega, ?_⟩
          have := c3 (by simp only [Bool.not_eq_true', Bool.not_eq_false', beq_iff_eq, beq_eq_false_iff_ne] at h35; omega) (by simp only [Bool.not_eq_true', Bool.not_eq_false', beq_iff_eq, beq_eq_false_iff_ne] at h48; omega) (by simp only [Bool.not_eq_true', Bool.not_eq_false', beq_iff_eq, beq_eq_false_iff_ne] at h49; omega)
          rw [show (p : Int).toNat = p by omega, ← this]; exact hq2
        · exact hnext (.inr (by simp only [Bool.not_eq_true', Bool.not_eq_false', beq_iff_eq, beq_eq_false_iff_ne] at h49; omega)) rfl
      · have hd := decode_high s' p hp (by omega)
        refine br_intro (fun h35 => ?_) fun h35 => br_intro (fun h48 => ?_) fun h48 => br_intro (fun h49 => ?_) fun h49 => ?_
        · exfalso; simp only [Bool.not_eq_true', Bool.not_eq_false', beq_iff_eq, beq_eq_false_iff_ne] at h35; omega
        · exfalso; simp only [Bool.not_eq_true', Bool.not_eq_false', beq_iff_eq, beq_eq_false_iff_ne] at h48; omega
        · refine chk_iff.2 ⟨by omega, ?_⟩
          have := c3 (by omega) (by omega) (by omega)
          rw [show (p : Int).toNat = p by omega, ← this]; exact hq2
        · exfalso; simp only [Bool.not_eq_true', Bool.not_eq_false', beq_iff_eq, beq_eq_false_iff_ne] at h49; omega
    · have hp := of_decide_eq_false hc
      refine hq1 ?_
      rw [he, List.drop_eq_nil_of_le (by simp; omega)]
      simp only [cleanN]; omega
  · exact hl.elim
theorem getD_byte {s : ByteArray} {p : Nat} (h : p < s.size) : s.data.toList.getD p 0 = s[p] := by
  have h' : p < s.data.toList.length := by simpa using h
  rw [List.getD_eq_getElem?_getD, List.getElem?_eq_getElem h']
  rfl
theorem okLCleanD : OkLp Try.prog H0 31 2 lCleanD := by
  refine okLp_of (U := 6) (k := 6) okS1 lCleanD (fun vals _ => match vals with | [.str s, .int _ i] => ((s.size : Int) - i).toNat | _ => 0) fun vals h Q hl => ?_
  unfold lCleanD at hl
  split at hl
  · rename_i s i
    obtain ⟨⟨h0, h1, hz, he⟩, hq1, hq2⟩ := hyp_iff.1 hl
    refine to (nf31a ..) (br_intro (fun hc => ?_) fun hc => ?_)
    · have hc := of_decide_eq_true hc
      have w2 : IntKind.i64.wrap (i + 1) = i + 1 := wr (by omega) (by omega)
      rw [w2]
      obtain ⟨p, rfl⟩ : ∃ p : Nat, i = p := ⟨i.toNat, by omega⟩
      have hp : p < s.size := by omega
      simp only [Int.toNat_natCast] at he ⊢
      rw [getD_byte hp]
      obtain ⟨c1, c2, c3⟩ := clean_step hp he
      have hnext : s[p].toNat = 48 ∨ s[p].toNat = 49 → stepQ lCleanD (fun vals _ => match vals with | [.str s, .int _ i] => ((s.size : Int) - i).toNat | _ => 0) [.str s, .int .i64 p] [] Q .nrm [.str s, .int .i64 ((p : Int) + 1)] [] := fun hb =>
        ⟨by show ((s.size : Int) - (p + 1)).toNat < ((s.size : Int) - p).toNat; omega, hyp_iff.2 ⟨⟨by omega, by omega, hz, by rw [show ((p : Int) + 1).toNat = p + 1 by omega]; exact c2 hb⟩, hq1, hq2⟩⟩
      have e1 : ((p : Int) + 1).toNat = p + 1 := by omega
      rw [e1]
      have hc' : (0 : Int) ≤ p ∧ (p : Int) < s.size := by omega
      have hc2 : (0 : Int) ≤ p + 1 ∧ (p : Int) + 1 ≤ s.size := by omega
      refine chk_iff.2 ⟨hc', br_intro (fun h48 => chk_iff.2 ⟨hc', br_intro (fun h35 => ?_) fun h35 => hnext (.inl (by simp only [Bool.not_eq_true', Bool.not_eq_false', beq_iff_eq, beq_eq_false_iff_ne] at h48; omega))⟩) fun h48 => br_intro (fun h49 => chk_iff.2 ⟨hc', br_intro (fun h35 => ?_) fun h35 => hnext (.inr (by simp only [Bool.not_eq_true', Bool.not_eq_false', beq_iff_eq, beq_eq_false_iff_ne] at h49; omega))⟩) fun h49 => br_intro (fun h35 => ?_) fun h35 =>
        chk_iff.2 ⟨hc', br_intro (fun h35' => ?_) fun h35' => ?_⟩⟩
      · exfalso; simp only [Bool.not_eq_true', Bool.not_eq_false', beq_iff_eq, beq_eq_false_iff_ne] at h48 h35; omega
      · exfalso; simp only [Bool.not_eq_true', Bool.not_eq_false', beq_iff_eq, beq_eq_false_iff_ne] at h49 h35; omega
      · refine chk_iff.2 ⟨by omega, ?_⟩
        rw [← c3 (by simp only [Bool.not_eq_true', Bool.not_eq_false', beq_iff_eq, beq_eq_false_iff_ne] at h35; omega) (by simp only [Bool.not_eq_true', Bool.not_eq_false', beq_iff_eq, beq_eq_false_iff_ne] at h48; omega) (by simp only [Bool.not_eq_true', Bool.not_eq_false', beq_iff_eq, beq_eq_false_iff_ne] at h49; omega)]; exact hq2
      · refine chk_iff.2 ⟨hc2, ?_⟩
        rw [← c1 (by simp only [Bool.not_eq_true', Bool.not_eq_false', beq_iff_eq, beq_eq_false_iff_ne] at h35'; omega)]; exact hq2
      · exfalso; simp only [Bool.not_eq_true', Bool.not_eq_false', beq_iff_eq, beq_eq_false_iff_ne] at h35 h35'; omega
    · have hc := of_decide_eq_false hc
      refine hq1 ?_
      rw [he, List.drop_eq_nil_of_le (by simp; omega)]
      simp only [cleanN]; omega
  · exact hl.elim
theorem okLRefLink : OkLp Try.prog H0 36 2 lRefLink := by
  refine okLp_of (U := 6) (k := 6) okS1 lRefLink (fun vals _ => match vals with | [.int _ n, _, _, .int _ k] => (2 * n - k).toNat | _ => 0) fun vals h Q hl => ?_
  unfold lRefLink at hl
  split at hl
  · rename_i n a b k
    obtain ⟨⟨h0, h1, h2, h3⟩, hq1, hq2⟩ := hyp_iff.1 hl
    refine to (nf36a ..) ?_
    have w1 : IntKind.i64.wrap (2 * n) = 2 * n := wr (by omega) (by omega)
    have w2 : IntKind.i64.wrap (k + 1) = k + 1 := wr (by omega) (by omega)
    have w3 : IntKind.i64.wrap (k - n) = k - n := wr (by omega) (by omega)
    have w4 : IntKind.i64.wrap (k - n + 2) = k - n + 2 := wr (by omega) (by omega)
    rw [w1, w2, w3, w4]
    refine br_intro (fun hc => ?_) fun hc => ?_
    · have hc := of_decide_eq_true hc
      obtain ⟨u, hu⟩ : ∃ u, (2 * n - k).toNat = u + 1 := ⟨(2 * n - k).toNat - 1, by omega⟩
      have hu2 : (2 * n - (k + 1)).toNat = u := by omega
      rw [hu] at hq1 hq2
      simp only [refL] at hq1 hq2
      have t1 : ∀ x : Int, 0 ≤ x → x.tmod n = s_rem x n := fun x hx => by unfold s_rem; exact Int.tmod_eq_emod_of_nonneg hx
      rw [t1 (k + 1) (by omega)]
      have hno : ¬ (if k < n then (k = a ∧ s_rem (k + 1) n = b) ∨ (k = b ∧ s_rem (k + 1) n = a) else (k - n = a ∧ s_rem (k - n + 2) n = b) ∨ (k - n = b ∧ s_rem (k - n + 2) n = a)) →
          stepQ lRefLink (fun vals _ => match vals with | [.int _ n, _, _, .int _ k] => (2 * n - k).toNat | _ => 0) [.int .i64 n, .int .i64 a, .int .i64 b, .int .i64 k] [] Q .nrm [.int .i64 n, .int .i64 a, .int .i64 b, .int .i64 (k + 1)] [] := fun hn => by
        rw [if_neg hn] at hq1 hq2
        refine ⟨by show (2 * n - (k + 1)).toNat < (2 * n - k).toNat; omega, hyp_iff.2 ⟨⟨h0, h1, by omega, by omega⟩, ?_⟩⟩
        rw [hu2]; exact ⟨hq1, hq2⟩
      have hyes : (if k < n then (k = a ∧ s_rem (k + 1) n = b) ∨ (k = b ∧ s_rem (k + 1) n = a) else (k - n = a ∧ s_rem (k - n + 2) n = b) ∨ (k - n = b ∧ s_rem (k - n + 2) n = a)) →
          Q .ret [.int .i64 k, .bool true] [] := fun hn => hq2 k (by rw [if_pos hn])
      refine br_intro (fun hk => ?_) fun hk => ?_
      · have hk := of_decide_eq_true hk
        rw [if_pos hk] at hno hyes
        refine chk_iff.2 ⟨by omega, ?_⟩
        refine br_intro (fun c1 => br_intro (fun c2 => ?_) fun c2 => br_intro (fun c3 => br_intro (fun c4 => ?_) fun c4 => ?_) fun c3 => ?_) fun c1 => br_intro (fun c3 => br_intro (fun c4 => ?_) fun c4 => ?_) fun c3 => ?_
        all_goals simp only [beq_iff_eq, beq_eq_false_iff_ne] at *
        all_goals first | exact hyes (.inl ⟨c1, c2⟩) | exact hyes (.inr ⟨c3, c4⟩) | exact hno (by omega)
      · have hk := of_decide_eq_false hk
        rw [if_neg hk] at hno hyes
        rw [t1 (k - n + 2) (by omega)]
        refine chk_iff.2 ⟨by omega, ?_⟩
        refine br_intro (fun c1 => br_intro (fun c2 => ?_) fun c2 => br_intro (fun c3 => br_intro (fun c4 => ?_) fun c4 => ?_) fun c3 => ?_) fun c1 => br_intro (fun c3 => br_intro (fun c4 => ?_) fun c4 => ?_) fun c3 => ?_
        all_goals simp only [beq_iff_eq, beq_eq_false_iff_ne] at *
        all_goals first | exact hyes (.inl ⟨c1, c2⟩) | exact hyes (.inr ⟨c3, c4⟩) | exact hno (by omega)
    · have hc := of_decide_eq_false hc
      refine hq1 ?_
      rw [show (2 * n - k).toNat = 0 by omega]; rfl
  · exact hl.elim
theorem okS3L : OkSp Try.prog H0 S3L := ⟨okS1.fn, okLCleanP, okLCleanD, okLRefLink, trivial⟩
end Go.Proofs.YtikmaidjpffakaaE
