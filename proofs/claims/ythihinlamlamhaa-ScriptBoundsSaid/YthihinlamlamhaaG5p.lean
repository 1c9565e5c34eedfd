/- A script of bytes: the specs hold. -/
import Derived.Test.YthihinlamlamhaaG5n
namespace Go.Proofs.YthihinlamlamhaaE
open Go
set_option linter.unusedVariables false
set_option linter.unusedSimpArgs false
set_option maxRecDepth 100000

theorem ok20 : OkS Try.prog H0 20 sCloneB := by
  intro args h Q hq
  unfold sCloneB at hq
  split at hq
  · rename_i nl rs
    obtain ⟨⟨h0, h1⟩, hQ⟩ := hyp_iff.1 hq
    refine in_ok (S := S5) (U := 6) (k := 6) okS5 (to (nf20 ..) (br_intro (fun c => ?_) fun c => ?_))
    · have := h0 c; subst this; exact hQ true
    · rw [chk_iff, chk_iff, chk_iff, List.nil_append, Nat.zero_add, List.drop_zero, List.take_length]
      exact ⟨by omega, by omega, by omega, hQ false⟩
  · exact hq.elim
theorem ok27 : OkS Try.prog H0 27 sCloneC := by
  intro args h Q hq
  unfold sCloneC at hq
  split at hq
  · rename_i nl rs
    obtain ⟨⟨h0, h1⟩, hQ⟩ := hyp_iff.1 hq
    subst h0
    refine in_ok (S := S5) (U := 6) (k := 6) okS5 (to (nf27 ..) ?_)
    refine (br_f).2 ?_
    rw [chk_iff, chk_iff, chk_iff, List.nil_append, Nat.zero_add, List.drop_zero, List.take_length]
    exact ⟨by omega, by omega, by omega, hQ⟩
  · exact in_ok (S := S5) (U := 6) (k := 6) okS5 (to (nf27n ..) hq)
  · exact hq.elim
theorem okS6 : OkSp Try.prog H0 S6 := ⟨⟨ok20, ok27, ok19, ok10, okS5.fn⟩, trivial⟩
theorem okLCalls : OkLp Try.prog H0 11 13 lCalls := by
  refine okLp_of (U := 6) (k := 6) okS6 lCalls (fun vals _ => match vals with | [_, _, _, _, .int _ m, .int _ i] => (m - i).toNat | _ => 0) fun vals h Q hl => ?_
  unfold lCalls at hl
  split at hl
  case h_2 => exact hl.elim
  rename_i F m i n pi e g fi nl ps a0 r0 a1 r1 a2 r2 C k at_ fr to_ a3 r3 a4 r4 z rest
  unfold lCl at hl
  split at hl
  · rename_i nl2 rs
    obtain ⟨⟨h0, h1, h2, h3, h4, h5⟩, hq1, hq2⟩ := hyp_iff.1 hl
    subst h0
    refine to (nf11a ..) (br_intro (fun hc => ⟨.mk ⟨h3, by omega⟩, ?_⟩) fun hc => ?_)
    · have hc := of_decide_eq_true hc
      rw [show IntKind.i64.wrap ((0 : Int) + 1) = 1 by decide]
      refine ⟨by show (m - 1).toNat < (m - 0).toNat; omega, ⟨rfl, by omega, h2, h3, h4, h5, rfl⟩, fun rows' hr => hq2 rows' ?_⟩
      rw [hr, show m.toNat = (m - 1).toNat + 1 by omega]
      rfl
    · have hc := of_decide_eq_false hc
      exact hq1 (by omega)
  · rename_i j rows nl2 rs
    obtain ⟨⟨h0, h1, h2, h3, h4, h5, h6⟩, hq2⟩ := hl
    subst h0
    refine to (nf11b ..) (br_intro (fun hc => ⟨.mk ⟨h3, by omega⟩, ?_⟩) fun hc => ?_)
    · have hc := of_decide_eq_true hc
      rw [chk_iff, chk_iff, chk_iff]
      refine ⟨h6.symm, by omega, by omega, ?_⟩
      rw [wr (x := (j : Int) + 1) (by omega) (by omega), h6]
      refine ⟨by show (m - ((j : Int) + 1)).toNat < (m - (j : Int)).toNat; omega, ⟨by omega, by omega, h2, h3, h4, h5, by rw [List.length_append, h6]; rfl⟩, fun rows' hr => hq2 rows' ?_⟩
      rw [hr, show (m - (j : Int)).toNat = (m - ((j : Int) + 1)).toNat + 1 by omega, List.append_assoc]
      rfl
    · have hc := of_decide_eq_false hc
      have e : m = j := by omega
      subst e
      have := hq2 rows (by rw [Int.sub_self]; simp [s_calls])
      rwa [show ((j : Int)).toNat = j by omega] at this
  · exact hl.elim
theorem okS6L : OkSp Try.prog H0 S6L := ⟨okS6.fn, okLCalls, trivial⟩
theorem sg_lit8 (rs : List (List AV)) (k : Nat) (t : Int) : irow .i64 (s_sg (s_drop k rs) t 8) = [[.int .i64 (IntKind.i64.wrap (IntKind.i64.wrap (s_at rs (k + 0) - 128) * t))], [.int .i64 (IntKind.i64.wrap (IntKind.i64.wrap (s_at rs (k + 1) - 128) * t))],
    [.int .i64 (IntKind.i64.wrap (IntKind.i64.wrap (s_at rs (k + 2) - 128) * t))], [.int .i64 (IntKind.i64.wrap (IntKind.i64.wrap (s_at rs (k + 3) - 128) * t))], [.int .i64 (IntKind.i64.wrap (IntKind.i64.wrap (s_at rs (k + 4) - 128) * t))],
    [.int .i64 (IntKind.i64.wrap (IntKind.i64.wrap (s_at rs (k + 5) - 128) * t))], [.int .i64 (IntKind.i64.wrap (IntKind.i64.wrap (s_at rs (k + 6) - 128) * t))], [.int .i64 (IntKind.i64.wrap (IntKind.i64.wrap (s_at rs (k + 7) - 128) * t))]] := by
  have : ∀ i, s_at (s_drop k rs) i = s_at rs (k + i) := fun i => at_drop k i rs
  simp only [← this]
  rfl
theorem calls_len (n np : Int) : ∀ (k : Nat) (rs : List (List AV)), (s_calls n np rs k).length = k
  | 0, _ => rfl
  | k + 1, rs => by simp [s_calls, calls_len n np k]
theorem confOk_n {n pi e g fi : Int} {ps : List Int} (h : s_confOk n pi e g fi ps = true) : 6 ≤ n ∧ n ≤ 12 ∧ ps.length ≤ 3 := by
  simp only [s_confOk, Bool.and_eq_true, decide_eq_true_eq] at h
  obtain ⟨⟨⟨⟨⟨⟨⟨⟨⟨⟨⟨h1, h2⟩, _⟩, _⟩, _⟩, _⟩, _⟩, _⟩, _⟩, _⟩, h11⟩, _⟩ := h
  exact ⟨h1, h2, h11⟩
theorem ok11 : OkS Try.prog H0 11 sOfS := by
  intro args h Q hq
  unfold sOfS at hq
  split at hq
  · rename_i n pi e g fi nl ps nl2 rs
    obtain ⟨⟨hc, hb, hnl, hrl⟩, hQ⟩ := hyp_iff.1 hq
    clear hq
    obtain ⟨hn1, hn2, hpl⟩ := confOk_n hc
    have hpl : ps.length ≤ 3 := by simpa [ints] using hpl
    refine in_ok (S := S6L) (U := 6) (k := 6) okS6L (to (nf11 ..) ?_)
    unfold s_rowi s_cN s_rN at hQ
    simp only [sg_lit, sg_lit8] at hQ
    simp only [dd, hd0, at_drop]
    generalize hm : (s_at rs (n.toNat + 8 + 8 + (s_fN (s_drop (n.toNat + 8 + 8) rs) + 4) + 1 + 0)).tmod 16 = m at *
    have hm2 : 0 ≤ m ∧ m < 16 := by rw [← hm]; exact at_mod hb _ (by omega)
    have hr := at_mod hb (n.toNat + 8 + 8 + (s_fN (s_drop (n.toNat + 8 + 8) rs) + 4) + 0) (show (0 : Int) < 40 by omega)
    rw [wr (x := 20 + (s_at rs (n.toNat + 8 + 8 + (s_fN (s_drop (n.toNat + 8 + 8) rs) + 4) + 0)).tmod 40) (by omega) (by omega)]
    refine ⟨.mk hc, .mk ⟨hnl, hrl⟩, fun nl' => ⟨.mk (by omega), .mk (by omega), .mk (by omega), .mk ⟨hn1, hn2, bytes_drop _ hb⟩, .mk ⟨trivial, by omega, by omega, by omega, by omega, by omega⟩, fun h0 => ?_, fun rows' hr' => ?_⟩⟩
    · subst h0
      exact hQ true
    · have hl := calls_len n (ps.length : Int) m.toNat (s_drop (n.toNat + 8 + 8 + (s_fN (s_drop (n.toNat + 8 + 8) rs) + 4) + 1 + 1) rs)
      subst hr'
      rw [chk_iff, List.drop_zero, List.take_of_length_le (by omega)]
      exact ⟨by omega, .mk ⟨trivial, by omega⟩, hQ false⟩
  · exact hq.elim
theorem okS7 : OkSp Try.prog H0 S7 := ⟨⟨ok11, okS6.fn⟩, trivial⟩
end Go.Proofs.YthihinlamlamhaaE
