/- The specs hold. -/
import Derived.Test.YtikmaidjpffakaaF1n
namespace Go.Proofs.YtikmaidjpffakaaE
open Go
set_option linter.unusedVariables false
set_option maxRecDepth 100000
set_option linter.unusedSimpArgs false

theorem to {a b : Prop} (e : a = b) (h : b) : a := e ▸ h
theorem wr {x : Int} (h1 : -9223372036854775808 ≤ x) (h2 : x ≤ 9223372036854775807) : IntKind.i64.wrap x = x := by
  rw [IntKind.wrap_i64]; omega
theorem tmod_rem (a : Int) {n : Int} (h : 0 < n) : (a.tmod n < 0 → a.tmod n + n = s_rem a n) ∧ (¬ a.tmod n < 0 → a.tmod n = s_rem a n) := by
  unfold s_rem
  have e := Int.tmod_eq_emod (a := a) (b := n)
  have h1 := Int.emod_nonneg a (show n ≠ 0 by omega)
  have h2 := Int.emod_lt_of_pos a h
  have hn : (n.natAbs : Int) = n := by omega
  constructor
  · intro hlt
    rw [e] at hlt ⊢
    split at hlt
    · omega
    · rename_i hc; rw [if_neg hc]; omega
  · intro hge
    rw [e] at hge ⊢
    split at hge
    · rename_i hc; rw [if_pos hc]; omega
    · omega
theorem rem_lt (a : Int) {n : Int} (h : 0 < n) : 0 ≤ s_rem a n ∧ s_rem a n < n := ⟨Int.emod_nonneg a (by omega), Int.emod_lt_of_pos a h⟩
theorem okS0 : OkSp Try.prog H0 S0 := ⟨trivial, trivial⟩
theorem within_ok {g : FuncId} (nf : ∀ (a n : Int) (Q : AV × List AObj → Prop), inlW Try.prog H0 S0 6 (InO Try.prog H0 S0 6 6) g [.int .i64 a, .int .i64 n] [] Q = (chk (n ≠ (0 : Int)) (br (decide (a.tmod n < (0 : Int)))
 (Q ((AV.int IntKind.i64 (IntKind.i64.wrap (a.tmod n + n)), [])))
 (Q ((AV.int IntKind.i64 (a.tmod n), [])))))) : OkS Try.prog H0 g sWithin := by
  intro args h Q hq
  unfold sWithin at hq
  split at hq
  · rename_i a n
    obtain ⟨⟨h0, h1⟩, hq⟩ := chk_iff.1 hq
    refine in_ok (S := S0) (U := 6) (k := 6) okS0 ?_
    refine to (nf ..) ?_
    have hr := rem_lt a h0
    refine chk_iff.2 ⟨by omega, br_intro (fun hc => ?_) (fun hc => ?_)⟩
    · have := (tmod_rem a h0).1 (of_decide_eq_true hc)
      rw [this, wr (by omega) (by omega)]; exact hq
    · rw [(tmod_rem a h0).2 (of_decide_eq_false hc)]; exact hq
  · exact hq.elim
theorem okS1 : OkSp Try.prog H0 S1 := ⟨⟨within_ok nf40, within_ok nf17, within_ok nf55, within_ok nf44, trivial⟩, trivial⟩
theorem irow_len (k : IntKind) (l : List Int) : (irow k l).length = l.length := by simp [irow]
theorem irow_app (k : IntKind) (a b : List Int) : irow k (a ++ b) = irow k a ++ irow k b := by simp [irow]
theorem okLMake : OkLp Try.prog H0 13 6 lMake := by
  refine okLp_of (U := 6) (k := 6) okS1 lMake (fun vals _ => match vals with | [_, _, _, .int _ i] => (3 - i).toNat | _ => 0) fun vals h Q hl => ?_
  unfold lMake at hl
  split at hl
  · rename_i i n' pi' e' g' fi' nl rs z1 z2 z3 z4 z5 n pi e g fi
    obtain ⟨⟨h0, h1, h2⟩, hq1, hq2⟩ := hyp_iff.1 hl
    subst h0
    refine to (nf13a ..) ?_
    have w1 : IntKind.i64.wrap (n + 1) = n + 1 := wr (by omega) (by omega)
    rw [w1]
    refine br_intro (fun hc => br_intro (fun hc2 => ?_) fun hc2 => ?_) fun hc => ?_
    · have hc := of_decide_eq_true hc
      refine chk_iff.2 ⟨⟨by omega, hc⟩, chk_iff.2 ⟨by omega, ?_⟩⟩
      have hr := rem_lt ((rs.getD (0 : Int).toNat []).getD 0 AV.gone).toI (show 0 < n + 1 by omega)
      have w2 : IntKind.i64.wrap ((0 : Int) + 1) = 1 := by decide
      have w3 : IntKind.i64.wrap (s_rem ((rs.getD (0 : Int).toNat []).getD 0 AV.gone).toI (n + 1) - 1) = s_rem ((rs.getD (0 : Int).toNat []).getD 0 AV.gone).toI (n + 1) - 1 := wr (by omega) (by omega)
      rw [w2, w3]
      exact ⟨by show (3 - 1 : Int).toNat < (3 - 0 : Int).toNat; decide, ⟨rfl, by omega, h1, h2, [_], rfl, rfl, fun p hp => by rw [List.mem_singleton.1 hp]; omega⟩, hq2⟩
    · exact absurd hc2 (by simp)
    · exact hq1
  · rename_i i n' pi' e' g' fi' nl rs z1 z2 z3 z4 z5 n pi e g fi m rows
    obtain ⟨⟨h0, hm, h1, h2, qs, rfl, hqs, hqb⟩, hq2⟩ := hl
    subst h0
    refine to (nf13b ..) ?_
    have w1 : IntKind.i64.wrap (n + 1) = n + 1 := wr (by omega) (by omega)
    rw [w1]
    have w2 : IntKind.i64.wrap ((m : Int) + 1) = ((m + 1 : Nat) : Int) := wr (by omega) (by omega)
    have fin : Q (.exit 0) [.ptr 0 0, .ptr 1 0] [.box [.int .i64 z1, .int .i64 z2, .int .i64 z3, .int .i64 z4, .int .i64 z5, .nils], .box [.int .i64 n, .int .i64 pi, .int .i64 e, .int .i64 g, .int .i64 fi, .sl 2 0 m], .arr 2 3 [.int .i64] (irow .i64 qs)] := by
      rw [← hqs]; exact hq2 qs (by omega) hqb
    refine br_intro (fun hc => br_intro (fun hc2 => ?_) fun hc2 => fin) fun hc => fin
    have hc := of_decide_eq_true hc
    have hc2 := of_decide_eq_true hc2
    have hr := rem_lt ((rs.getD (m : Int).toNat []).getD 0 AV.gone).toI (show 0 < n + 1 by omega)
    have w3 : IntKind.i64.wrap (s_rem ((rs.getD (m : Int).toNat []).getD 0 AV.gone).toI (n + 1) - 1) = s_rem ((rs.getD (m : Int).toNat []).getD 0 AV.gone).toI (n + 1) - 1 := wr (by omega) (by omega)
    refine chk_iff.2 ⟨⟨by omega, hc⟩, chk_iff.2 ⟨by omega, ?_⟩⟩
    rw [irow_len]
    refine chk_iff.2 ⟨hqs.symm, chk_iff.2 ⟨by omega, chk_iff.2 ⟨by omega, ?_⟩⟩⟩
    rw [w2, w3, hqs]
    exact ⟨by show (3 - ((m + 1 : Nat) : Int)).toNat < (3 - (m : Int)).toNat; omega, ⟨rfl, by omega, h1, h2, qs ++ [s_rem ((rs.getD (m : Int).toNat []).getD 0 AV.gone).toI (n + 1) - 1], by simp [irow], by simp [hqs], fun p hp => by
      rcases List.mem_append.1 hp with hp | hp
      · exact hqb p hp
      · rw [List.mem_singleton.1 hp]; omega⟩, hq2⟩
  · exact hl.elim
theorem okLText : OkLp Try.prog H0 29 3 lText := by
  refine okLp_of (U := 6) (k := 6) okS1 lText (fun vals _ => match vals with | [_, _, .int _ i] => (80 - i).toNat | _ => 0) fun vals h Q hl => ?_
  unfold lText at hl
  split at hl
  · rename_i nl rs s i
    obtain ⟨⟨h0, h1, h2⟩, hq⟩ := hyp_iff.1 hl
    refine to (nf29a ..) ?_
    refine br_intro (fun hc => br_intro (fun hc2 => ?_) fun hc2 => hq s (by omega)) fun hc => hq s (by omega)
    have hc := of_decide_eq_true hc
    have hc2 := of_decide_eq_true hc2
    generalize hx : s_rem ((rs.getD i.toNat []).getD 0 AV.gone).toI 11 = x
    have hr := rem_lt ((rs.getD i.toNat []).getD 0 AV.gone).toI (show (0 : Int) < 11 by omega)
    rw [hx] at hr
    obtain ⟨y, hy, rfl⟩ : ∃ y : Nat, y < 11 ∧ x = y := ⟨x.toNat, by omega, by omega⟩
    refine chk_iff.2 ⟨⟨h0, hc⟩, chk_iff.2 ⟨by simpa only [Nat.zero_add] using ⟨by omega, by omega⟩, chk_iff.2 ⟨by simpa using hy, ?_⟩⟩⟩
    have hsz : ∀ y : Nat, y < 11 → (([[AV.str { data := #[(48 : UInt8)] }], [AV.str { data := #[(49 : UInt8)] }],
                      [AV.str { data := #[(48 : UInt8)] }], [AV.str { data := #[(49 : UInt8)] }],
                      [AV.str { data := #[(48 : UInt8)] }], [AV.str { data := #[(49 : UInt8)] }],
                      [AV.str { data := #[(48 : UInt8)] }], [AV.str { data := #[(49 : UInt8)] }],
                      [AV.str { data := #[(35 : UInt8)] }], [AV.str { data := #[(46 : UInt8)] }],
                      [AV.str { data := #[(120 : UInt8)] }]].getD
                  ((0 : Nat) + (y : Int).toNat) []).getD
              (0 : Nat) AV.gone).toS.size = 1 := by decide +kernel
    have w2 : IntKind.i64.wrap (i + 1) = i + 1 := wr (by omega) (by omega)
    rw [w2]
    have key : ∀ u : ByteArray, u.size = 1 → chk (Nat.ble (s.size + u.size) 9223372036854775807 = true) (stepQ lText (fun vals _ => match vals with | [_, _, .int _ i] => (80 - i).toNat | _ => 0) [.row nl [.int .i64] rs, .str s, .int .i64 i] [] Q .nrm [.row nl [.int .i64] rs, .str (s ++ u), .int .i64 (i + 1)] []) := by
      intro u hu
      refine chk_iff.2 ⟨by rw [Nat.ble_eq]; omega, by show (80 - (i + 1)).toNat < (80 - i).toNat; omega, hyp_iff.2 ⟨⟨by omega, ?_, by omega⟩, hq⟩⟩
      rw [ByteArray.size_append, hu]; omega
    exact key _ (hsz y hy)
  · exact hl.elim
theorem ext_le (s : ByteArray) (a b : Nat) : (s.extract a b).size ≤ s.size := by rw [ByteArray.size_extract]; omega
theorem okLFront : OkLp Try.prog H0 31 2 lFront := by
  refine okLp_of (U := 6) (k := 6) okS1 lFront (fun vals _ => match vals with | [.str s, .int _ i] => ((s.size : Int) - i).toNat | _ => 0) fun vals h Q hl => ?_
  unfold lFront at hl
  split at hl
  · rename_i s i
    obtain ⟨⟨h0, h1, hz⟩, hq1, hq2⟩ := hyp_iff.1 hl
    refine to (nf31a ..) ?_
    refine br_intro (fun hc => ?_) fun hc => hq1 s (Nat.le_refl _)
    have hc := of_decide_eq_true hc
    have w2 : IntKind.i64.wrap (i + 1) = i + 1 := wr (by omega) (by omega)
    rw [w2]
    have a1 : Q .ret [.str (s.extract 0 (i + 1).toNat)] [] := hq2 _ (ext_le _ _ _)
    have a2 : Q .ret [.str (s.extract 0 i.toNat)] [] := hq2 _ (ext_le _ _ _)
    have a3 : stepQ lFront (fun vals _ => match vals with | [.str s, .int _ i] => ((s.size : Int) - i).toNat | _ => 0) [.str s, .int .i64 i] [] Q .nrm [.str s, .int .i64 (i + 1)] [] :=
      ⟨by show ((s.size : Int) - (i + 1)).toNat < ((s.size : Int) - i).toNat; omega, hyp_iff.2 ⟨⟨by omega, by omega, hz⟩, hq1, hq2⟩⟩
    refine chk_iff.2 ⟨⟨h0, hc⟩, ?_⟩
    repeat' first
      | exact a1
      | exact a2
      | exact a3
      | refine chk_iff.2 ⟨⟨by omega, by omega⟩, ?_⟩
      | refine br_intro (fun _ => ?_) fun _ => ?_
  · exact hl.elim
theorem okS1L : OkSp Try.prog H0 S1L := ⟨okS1.fn, okLMake, okLText, okLFront, trivial⟩
theorem ok29 : OkS Try.prog H0 29 sText := by
  intro args h Q hq
  unfold sText at hq
  split at hq
  · exact in_ok (S := S1L) (U := 6) (k := 6) okS1L (to (nf29 ..) (hyp_iff.2 ⟨⟨by decide, by decide, by decide⟩, hq⟩))
  · exact hq.elim
theorem ok31 : OkS Try.prog H0 31 sFront := by
  intro args h Q hq
  unfold sFront at hq
  split at hq
  · obtain ⟨h0, hq⟩ := hyp_iff.1 hq
    exact in_ok (S := S1L) (U := 6) (k := 6) okS1L (to (nf31 ..) (hyp_iff.2 ⟨⟨by decide, by omega, h0⟩, hq, hq⟩))
  · exact hq.elim
theorem ok13 : OkS Try.prog H0 13 sMake := by
  intro args h Q hq
  unfold sMake at hq
  split at hq
  · rename_i n pi e g fi nl rs
    refine in_ok (S := S1L) (U := 6) (k := 6) okS1L (to (nf13 ..) ?_)
    have r1 := rem_lt n (show (0 : Int) < 7 by omega)
    have r2 := rem_lt e (show (0 : Int) < 21 by omega)
    have r3 := rem_lt g (show (0 : Int) < 21 by omega)
    have r4 := rem_lt pi (show (0 : Int) < 100 by omega)
    have r5 := rem_lt fi (show (0 : Int) < 40 by omega)
    have r6 := rem_lt fi (show (0 : Int) < 65536 by omega)
    rw [wr (x := 6 + s_rem n 7) (by omega) (by omega), wr (x := s_rem e 21 + s_rem g 21) (by omega) (by omega), wr (x := s_rem e 21 + s_rem g 21 + 1) (by omega) (by omega), wr (x := 4 * (s_rem e 21 + s_rem g 21 + 1)) (by omega) (by omega),
      wr (x := 4 * (s_rem e 21 + s_rem g 21 + 1) + s_rem pi 100) (by omega) (by omega), wr (x := 65535 - s_rem fi 40) (by omega) (by omega)]
    have take : ∀ ps : List Int, List.take ps.length (List.drop 0 (List.map (fun n => [AV.int IntKind.i64 n]) ps)) = irow .i64 ps := fun ps => by
      rw [List.drop_zero, List.take_of_length_le (by simp)]; rfl
    refine br_intro (fun _ => hyp_iff.2 ⟨⟨rfl, by omega, by omega⟩, ?_, fun ps h1 h2 => chk_iff.2 ⟨by simp, ?_⟩⟩) fun _ => hyp_iff.2 ⟨⟨rfl, by omega, by omega⟩, ?_, fun ps h1 h2 => chk_iff.2 ⟨by simp, ?_⟩⟩
    · exact hq _ _ _ _ _ true [] ⟨by omega, by omega, by omega, by omega, by omega, by omega, by omega, by omega, by omega, by omega, by simp, by simp⟩
    · rw [take]; exact hq _ _ _ _ _ false ps ⟨by omega, by omega, by omega, by omega, by omega, by omega, by omega, by omega, by omega, by omega, h1, h2⟩
    · exact hq _ _ _ _ _ true [] ⟨by omega, by omega, by omega, by omega, by omega, by omega, by omega, by omega, by omega, by omega, by simp, by simp⟩
    · rw [take]; exact hq _ _ _ _ _ false ps ⟨by omega, by omega, by omega, by omega, by omega, by omega, by omega, by omega, by omega, by omega, h1, h2⟩
  · exact hq.elim
theorem ok49 : OkS Try.prog H0 49 sCheck := by
  intro args h Q hq
  unfold sCheck at hq
  split at hq
  · rename_i n pi e g fi nl rs
    obtain ⟨h0, hQ⟩ := hyp_iff.1 hq
    simp only [s_confOk, Bool.and_eq_true, decide_eq_true_eq] at h0
    obtain ⟨⟨⟨⟨⟨⟨⟨⟨⟨⟨⟨h1, h2⟩, h3⟩, h4⟩, h5⟩, h6⟩, h7⟩, h8⟩, h9⟩, h10⟩, h11⟩, h12⟩ := h0
    have w1 : IntKind.i64.wrap (e + g) = e + g := wr (by omega) (by omega)
    have w2 : IntKind.i64.wrap (e + g + 1) = e + g + 1 := wr (by omega) (by omega)
    have w3 : IntKind.i64.wrap (4 * (e + g + 1)) = 4 * (e + g + 1) := wr (by omega) (by omega)
    have w4 : IntKind.i64.wrap (n - 1) = n - 1 := wr (by omega) (by omega)
    have w5 : IntKind.i64.wrap ((0 : Int) + 1) = 1 := by decide
    have w6 : IntKind.i64.wrap ((1 : Int) + 1) = 2 := by decide
    have hall : ∀ r ∈ rs, -1 ≤ (r.getD 0 AV.gone).toI ∧ (r.getD 0 AV.gone).toI < n := fun r hr => by
      have := List.all_eq_true.1 h12 _ (List.mem_map_of_mem hr)
      simpa using this
    refine in_ok (S := S1) (U := 6) (k := 6) okS1 ?_
    have hl : rs.length ≤ 3 := by simpa [ints] using h11
    match rs, hl, hall with
    | [], _, _ =>
      refine to (nf49z ..) ?_
      rw [w1, w2, w3]
      repeat' first | exact hQ | refine br_intro (fun hc => ?_) fun hc => ?_
      all_goals (exfalso; simp only [Bool.not_eq_true', decide_eq_false_iff_not, decide_eq_true_eq] at hc; omega)
    | [a], _, hall =>
      have ha := hall a (by simp)
      refine to (nf49a ..) ?_
      rw [w1, w2, w3, w4]
      repeat' first | exact hQ | refine br_intro (fun hc => ?_) fun hc => ?_
      all_goals (exfalso; simp only [Bool.not_eq_true', decide_eq_false_iff_not, decide_eq_true_eq] at hc; first | omega | (change ¬ (a.getD 0 AV.gone).toI ≥ -1 at hc; omega) | (change ¬ (a.getD 0 AV.gone).toI ≤ n - 1 at hc; omega))
    | [a, b], _, hall =>
      have ha := hall a (by simp)
      have hb := hall b (by simp)
      refine to (nf49b ..) ?_
      rw [w1, w2, w3, w4]
      repeat' first | exact hQ | refine br_intro (fun hc => ?_) fun hc => ?_
      all_goals (exfalso; simp only [Bool.not_eq_true', decide_eq_false_iff_not, decide_eq_true_eq] at hc; first | omega | (change ¬ (a.getD 0 AV.gone).toI ≥ -1 at hc; omega) | (change ¬ (a.getD 0 AV.gone).toI ≤ n - 1 at hc; omega) | (change ¬ (b.getD 0 AV.gone).toI ≥ -1 at hc; omega) | (change ¬ (b.getD 0 AV.gone).toI ≤ n - 1 at hc; omega))
    | [a, b, c], _, hall =>
      have ha := hall a (by simp)
      have hb := hall b (by simp)
      have hc' := hall c (by simp)
      refine to (nf49c ..) ?_
      rw [w1, w2, w3, w4]
      repeat' first | exact hQ | refine br_intro (fun hc => ?_) fun hc => ?_
      all_goals (exfalso; simp only [Bool.not_eq_true', decide_eq_false_iff_not, decide_eq_true_eq] at hc; first | omega | (change ¬ (a.getD 0 AV.gone).toI ≥ -1 at hc; omega) | (change ¬ (a.getD 0 AV.gone).toI ≤ n - 1 at hc; omega) | (change ¬ (b.getD 0 AV.gone).toI ≥ -1 at hc; omega) | (change ¬ (b.getD 0 AV.gone).toI ≤ n - 1 at hc; omega) | (change ¬ (c.getD 0 AV.gone).toI ≥ -1 at hc; omega) | (change ¬ (c.getD 0 AV.gone).toI ≤ n - 1 at hc; omega))
    | _ :: _ :: _ :: _ :: _, hl, _ => simp at hl
  · rename_i n pi e g fi
    obtain ⟨h0, hQ⟩ := hyp_iff.1 hq
    simp only [s_confOk, Bool.and_eq_true, decide_eq_true_eq] at h0
    obtain ⟨⟨⟨⟨⟨⟨⟨⟨⟨⟨⟨h1, h2⟩, h3⟩, h4⟩, h5⟩, h6⟩, h7⟩, h8⟩, h9⟩, h10⟩, h11⟩, h12⟩ := h0
    have w1 : IntKind.i64.wrap (e + g) = e + g := wr (by omega) (by omega)
    have w2 : IntKind.i64.wrap (e + g + 1) = e + g + 1 := wr (by omega) (by omega)
    have w3 : IntKind.i64.wrap (4 * (e + g + 1)) = 4 * (e + g + 1) := wr (by omega) (by omega)
    refine in_ok (S := S1) (U := 6) (k := 6) okS1 (to (nf49n ..) ?_)
    rw [w1, w2, w3]
    repeat' first | exact hQ | refine br_intro (fun hc => ?_) fun hc => ?_
    all_goals (exfalso; simp only [Bool.not_eq_true', decide_eq_false_iff_not, decide_eq_true_eq] at hc; omega)
  · exact hq.elim
end Go.Proofs.YtikmaidjpffakaaE
