/- ScriptKnown: the specs hold, and the law. -/
import Derived.Test.YthihinlamlamhaaG1n
namespace Go.Proofs.YthihinlamlamhaaE
open Go
set_option linter.unusedVariables false
set_option linter.unusedSimpArgs false
set_option maxRecDepth 100000

theorem to {a b : Prop} (e : a = b) (h : b) : a := e ▸ h
theorem wr {x : Int} (h1 : -9223372036854775808 ≤ x) (h2 : x ≤ 9223372036854775807) : IntKind.i64.wrap x = x := by
  rw [IntKind.wrap_i64]; omega
theorem tmod_rem (a : Int) {n : Int} (h : 0 < n) : (a.tmod n < 0 → a.tmod n + n = s_rem a n) ∧ (¬ a.tmod n < 0 → a.tmod n = s_rem a n) := by
  unfold s_rem
  have e := Int.tmod_eq_emod (a := a) (b := n)
  have h1 := Int.emod_nonneg a (show n ≠ 0 by omega)
  have h2 := Int.emod_lt_of_pos a h
  have hn : (n.natAbs : Int) = n := by omega
  constructor
  · intro hlt
    rw [e] at hlt ⊢
    split at hlt
    · omega
    · rename_i hc; rw [if_neg hc]; omega
  · intro hge
    rw [e] at hge ⊢
    split at hge
    · rename_i hc; rw [if_pos hc]; omega
    · omega
theorem rem_lt (a : Int) {n : Int} (h : 0 < n) : 0 ≤ s_rem a n ∧ s_rem a n < n := ⟨Int.emod_nonneg a (by omega), Int.emod_lt_of_pos a h⟩
theorem okS0 : OkSp Try.prog H0 S0 := ⟨trivial, trivial⟩
theorem within_ok {g : FuncId} (nf : ∀ (a n : Int) (Q : AV × List AObj → Prop), inlW Try.prog H0 S0 6 (InO Try.prog H0 S0 6 6) g [.int .i64 a, .int .i64 n] [] Q = (chk (n ≠ (0 : Int)) (br (decide (a.tmod n < (0 : Int)))
 (Q ((AV.int IntKind.i64 (IntKind.i64.wrap (a.tmod n + n)), [])))
 (Q ((AV.int IntKind.i64 (a.tmod n), [])))))) : OkS Try.prog H0 g sWithin := by
  intro args h Q hq
  unfold sWithin at hq
  split at hq
  · rename_i a n
    obtain ⟨⟨h0, h1⟩, hq⟩ := chk_iff.1 hq
    refine in_ok (S := S0) (U := 6) (k := 6) okS0 ?_
    refine to (nf ..) ?_
    have hr := rem_lt a h0
    refine chk_iff.2 ⟨by omega, br_intro (fun hc => ?_) (fun hc => ?_)⟩
    · have := (tmod_rem a h0).1 (of_decide_eq_true hc)
      rw [this, wr (by omega) (by omega)]; exact hq
    · rw [(tmod_rem a h0).2 (of_decide_eq_false hc)]; exact hq
  · exact hq.elim
theorem ok9 : OkS Try.prog H0 9 sKnown := by
  intro args h Q hq
  unfold sKnown at hq
  split at hq
  · exact in_ok (S := S0) (U := 60) (k := 12) okS0 (to (nf9 ..) hq)
  · exact hq.elim
theorem okS1 : OkSp Try.prog H0 S1 := ⟨⟨within_ok nf17, within_ok nf18, ok9, trivial⟩, trivial⟩
theorem known_holds (n : Int) : inlW Try.prog H0 S1 60 (InO Try.prog H0 S1 60 12) 6 [.int .i64 n] [] (fun r => r.1 = .bool true) := by
  refine to (nf6 ..) ?_
  have rN := rem_lt n (show (0 : Int) < 256 by omega)
  generalize s_rem n 256 = z at *
  have wu : IntKind.u8.wrap z = z := by
    have e : IntKind.u8.wrap z = z % 256 := by simp [IntKind.wrap, IntKind.bits, IntKind.signed]
    rw [e, Int.emod_eq_of_lt (by omega) (by omega)]
  rw [wu, wr (x := z) (by omega) (by omega), wr (x := 62) (by omega) (by omega), wr (x := 7) (by omega) (by omega), wr (x := 3) (by omega) (by omega)]
  have e1 : ((62 : Int).tmod 60 == 2) = true := by decide
  have e2 : ((7 : Int).tmod 6 == 1) = true := by decide
  have e3 : ((3 : Int).tmod 2 == 1) = true := by decide
  simp only [e1, e2, e3, beq_self_eq_true, Bool.and_self]
end Go.Proofs.YthihinlamlamhaaE
