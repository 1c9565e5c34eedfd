/- FaultTimes, FaultBoth: the plain laws. -/
import Derived.Test.YtikmaidjpffakaaF3p
import Derived.Test.YtikmaidjpffakaaF4n
namespace Go.Proofs.YtikmaidjpffakaaE
open Go
set_option linter.unusedVariables false
set_option linter.unusedSimpArgs false
set_option maxRecDepth 100000

theorem ints_irow (k : IntKind) (ps : List Int) : ints (irow k ps) = ps := by
  induction ps with
  | nil => rfl
  | cons a l ih =>
    have : ints (irow k (a :: l)) = a :: ints (irow k l) := rfl
    rw [this, ih]
theorem cfMade_ok {n pi e g fi : Int} {ps : List Int} (h : s_made n pi e g fi ps) : s_confOk n pi e g fi (ints (irow .i64 ps)) = true := by
  obtain ⟨h1, h2, h3, h4, h5, h6, h7, h8, h9, h10, h11, h12⟩ := h
  rw [ints_irow]
  simp only [s_confOk, Bool.and_eq_true, decide_eq_true_eq, List.all_eq_true]
  exact ⟨⟨⟨⟨⟨⟨⟨⟨⟨⟨⟨h1, h2⟩, h3⟩, by omega⟩, h5⟩, by omega⟩, h7⟩, h8⟩, h9⟩, by omega⟩, h11⟩, h12⟩
theorem clean_le (s : ByteArray) : (s_clean s).size ≤ s.size := ext_le _ _ _
abbrev act1 : List (List AV) := [[AV.int IntKind.i64 (3 : Int), AV.int IntKind.i64 (0 : Int), AV.str (ByteArray.mk #[(49 : UInt8), (35 : UInt8)])]]
theorem act1_ok : s_actsOk (List.take (1 : Nat) (List.drop (0 : Nat) act1)) := by
  refine ⟨by decide, fun r hr => ?_⟩
  obtain rfl : r = _ := List.mem_singleton.1 hr
  exact ⟨by decide, by decide⟩
theorem done1 {b : ByteArray} : s_done 3 0 (ByteArray.mk #[(49 : UInt8), (35 : UInt8)]) b = ByteArray.mk #[(49 : UInt8), (35 : UInt8)] := by
  have : s_clean (ByteArray.mk #[(49 : UInt8), (35 : UInt8)]) = ByteArray.mk #[(49 : UInt8), (35 : UInt8)] := by decide +kernel
  unfold s_done
  rw [if_neg (by decide), if_neg (by decide), if_pos (by decide), this]
theorem emit1 {F T r sl dst : Int} {b : ByteArray} (hd : 0 ≤ 17 * r + 5 * sl + dst) : s_emit true F T act1 r sl dst b = if r ≥ T then b else if r < F then ByteArray.mk #[] else ByteArray.mk #[(49 : UInt8), (35 : UInt8)] := by
  unfold s_emit
  have hk : s_rem (17 * r + 5 * sl + dst) (act1.length : Nat) = 0 := by show (17 * r + 5 * sl + dst) % (1 : Int) = 0; omega
  rw [hk]
  by_cases h1 : r ≥ T
  · rw [if_pos (.inr h1), if_pos h1]
  · rw [if_neg (by simp; omega), if_neg h1]
    by_cases h2 : r < F
    · rw [if_pos (.inl h2), if_pos h2]
    · rw [if_neg (by simp only [List.length_cons, List.length_nil]; omega), if_neg h2]
      exact done1
theorem emit0 {F T r sl dst : Int} {acts : List (List AV)} {b : ByteArray} : s_emit false F T acts r sl dst b = b := by
  unfold s_emit; rw [if_pos (.inl rfl)]
theorem times_holds (n pi e g fi : Int) (nl : Bool) (rs : List (List AV)) (at_ fr sp ro : Int) (nl2 : Bool) (ns : List (List AV)) : inlW Try.prog H0 S7 6 (InO Try.prog H0 S7 6 6) 9 [cf n pi e g fi nl rs, .int .i64 at_, .int .i64 fr, .int .i64 sp, .int .i64 ro, .row nl2 [.int .i64] ns] [] (fun r => r.1 = .bool true) := by
  refine to (nf9 ..) ?_
  intro n' pi' e' g' fi' nl' ps hm
  have hc := cfMade_ok hm
  have hn := hm.1
  have hn2 := hm.2.1
  clear hm
  have rA := rem_lt at_ (show (0 : Int) < n' by omega)
  have rF := rem_lt fr (show (0 : Int) < 500 by omega)
  have rS := rem_lt sp (show (0 : Int) < 500 by omega)
  have rR := rem_lt ro (show (0 : Int) < 1000 by omega)
  generalize s_rem at_ n' = A at *
  generalize s_rem fr 500 = F at *
  generalize s_rem sp 500 = D at *
  generalize s_rem ro 1000 = r at *
  rw [wr (x := A + 1) (by omega) (by omega), wr (x := A + 2) (by omega) (by omega), wr (x := F + D) (by omega) (by omega)]
  have m1 : (A + 1).tmod n' = (A + 1) % n' := Int.tmod_eq_emod_of_nonneg (by omega)
  have m2 : (A + 2).tmod n' = (A + 2) % n' := Int.tmod_eq_emod_of_nonneg (by omega)
  rw [m1, m2]
  have b1 := Int.emod_nonneg (A + 1) (show n' ≠ 0 by omega)
  have b1' := Int.emod_lt_of_pos (A + 1) (show 0 < n' by omega)
  have b2 := Int.emod_nonneg (A + 2) (show n' ≠ 0 by omega)
  have b2' := Int.emod_lt_of_pos (A + 2) (show 0 < n' by omega)
  have ne1 : (A + 1) % n' ≠ A := by
    by_cases h : A + 1 < n'
    · rw [Int.emod_eq_of_lt (by omega) h]; omega
    · rw [show A + 1 = n' by omega, Int.emod_self]; omega
  generalize (A + 1) % n' = B at *
  generalize (A + 2) % n' = C at *
  have h1 : s_hit n' 1 A A B = true := by simp [s_hit]
  have h2 : s_hit n' 1 A B C = false := by simp [s_hit, ne1]
  have h3 : s_right 1 A (F + D) r A = decide (r ≥ F + D) := by simp [s_right]
  have h4 : s_right 1 A (F + D) r B = true := by simp [s_right, ne1]
  rw [chk_iff]
  refine ⟨by omega, fun s hs => ?_⟩
  rw [chk_iff]
  refine ⟨by omega, ?_⟩
  have hz : ((ByteArray.mk #[(48 : UInt8)]) ++ s).size = 1 + s.size := by rw [ByteArray.size_append]; rfl
  have hz2 := clean_le ((ByteArray.mk #[(48 : UInt8)]) ++ s)
  generalize (ByteArray.mk #[(48 : UInt8)]) ++ s = base at *
  generalize s_clean base = b at *
  rw [h1, h2, h3, emit1 (by omega), emit0]
  have c0 : n' ≠ 0 := by omega
  refine ⟨.mk (by omega), chk_iff.2 ⟨c0, .mk ⟨hc, rR.1, by omega, by omega, by omega, b1, by omega, by omega, act1_ok⟩, chk_iff.2 ⟨c0, chk_iff.2 ⟨c0, .mk ⟨hc, rR.1, by omega, by omega, by omega, b2, by omega, by omega, act1_ok⟩, ?_⟩⟩⟩⟩
  by_cases k1 : r ≥ F + D
  · rw [decide_eq_true k1]; simp [br, k1]
  · rw [decide_eq_false k1]
    by_cases k2 : r < F
    · rw [decide_eq_true k2]; simp [br, k1, k2]
    · rw [decide_eq_false k2]; simp [br, k1, k2]
      rw [chk_iff]; exact ⟨c0, h4⟩
end Go.Proofs.YtikmaidjpffakaaE
