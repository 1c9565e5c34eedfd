/- The specs of a locus' functions hold. -/
import Derived.Test.YtikmaidjpffakaaF2p
namespace Go.Proofs.YtikmaidjpffakaaE
open Go
set_option linter.unusedVariables false
set_option linter.unusedSimpArgs false
set_option maxRecDepth 100000

theorem ok69 : OkS Try.prog H0 69 sClean := by
  intro args h Q hq
  unfold sClean at hq
  split at hq
  · obtain ⟨h0, hq⟩ := hyp_iff.1 hq
    refine in_ok (S := S3L) (U := 6) (k := 6) okS3L (to (nf69 ..) (hyp_iff.2 ⟨⟨rfl, by omega, h0, by rw [List.drop_zero]; omega⟩, fun he => ?_, hq⟩))
    rw [clean_end he] at hq; exact hq
  · exact hq.elim
theorem ok31' : OkS Try.prog H0 31 sClean := by
  intro args h Q hq
  unfold sClean at hq
  split at hq
  · obtain ⟨h0, hq⟩ := hyp_iff.1 hq
    refine in_ok (S := S3L) (U := 6) (k := 6) okS3L (to (nf31' ..) (hyp_iff.2 ⟨⟨by omega, by omega, h0, by rw [show (0 : Int).toNat = 0 from rfl, List.drop_zero]; omega⟩, fun he => ?_, hq⟩))
    rw [clean_end he] at hq; exact hq
  · exact hq.elim
theorem ok128 : OkS Try.prog H0 128 sAt := by
  intro args h Q hq
  unfold sAt at hq
  split at hq
  · rename_i n i d
    obtain ⟨⟨h0, h1, h2, h3, h4, h5⟩, hq⟩ := hyp_iff.1 hq
    refine in_ok (S := S1) (U := 6) (k := 6) okS1 (to (nf128 ..) (br_intro (fun hc => ?_) fun hc => chk_iff.2 ⟨by omega, chk_iff.2 ⟨by omega, ?_⟩⟩))
    · have := of_decide_eq_true hc; omega
    · have hb := tmod_rem (i + d) h0
      have hr := rem_lt (i + d) h0
      have h3 := Int.lt_tmod_of_pos (i + d) h0
      have h4 := Int.tmod_lt_of_pos (i + d) h0
      have e : (IntKind.i64.wrap ((IntKind.i64.wrap (i + d)).tmod n + n)).tmod n = s_rem (i + d) n := by
        rw [wr (x := i + d) (by omega) (by omega), wr (by omega) (by omega), Int.tmod_eq_emod_of_nonneg (by omega)]
        by_cases hlt : (i + d).tmod n < 0
        · rw [hb.1 hlt]; exact Int.emod_eq_of_lt hr.1 hr.2
        · rw [hb.2 hlt]
          rw [Int.add_emod_right]; exact Int.emod_eq_of_lt hr.1 hr.2
      rw [e]; exact hq
  · exact hq.elim
theorem ref_link {n : Int} (h1 : 6 ≤ n) (h2 : n ≤ 12) {a b : Int} (ha : 0 ≤ a) (ha2 : a < n) (hb : 0 ≤ b) (hb2 : b < n) : refL n a b (2 * n - 0).toNat 0 = s_linkO n a b := by
  have key : ((List.range 7).all fun m => (List.range 12).all fun x => (List.range 12).all fun y => !(decide (x < m + 6) && decide (y < m + 6)) || decide (refL ((m + 6 : Nat) : Int) x y (2 * ((m + 6 : Nat) : Int) - 0).toNat 0 = s_linkO ((m + 6 : Nat) : Int) x y)) = true := by decide +kernel
  have := List.all_eq_true.1 (List.all_eq_true.1 (List.all_eq_true.1 key (n - 6).toNat (by simp; omega)) a.toNat (by simp; omega)) b.toNat (by simp; omega)
  have d1 : decide (a.toNat < (n - 6).toNat + 6) = true := decide_eq_true (by omega)
  have d2 : decide (b.toNat < (n - 6).toNat + 6) = true := decide_eq_true (by omega)
  rw [d1, d2] at this
  have := of_decide_eq_true this
  rwa [show (((n - 6).toNat + 6 : Nat) : Int) = n by omega, show (a.toNat : Int) = a by omega, show (b.toNat : Int) = b by omega] at this
theorem ok36 : OkS Try.prog H0 36 sRefLink := by
  intro args h Q hq
  unfold sRefLink at hq
  split at hq
  · rename_i n a b
    obtain ⟨⟨h1, h2, h3, h4, h5, h6⟩, hq⟩ := hyp_iff.1 hq
    have e := ref_link h1 h2 h3 h4 h5 h6
    refine in_ok (S := S3L) (U := 6) (k := 6) okS3L (to (nf36 ..) (hyp_iff.2 ⟨by omega, fun hn => ?_, fun m hm => ?_⟩))
    · rw [e] at hn
      simp only [s_linkN, s_linkB, hn] at hq; exact hq
    · rw [e] at hm
      simp only [s_linkN, s_linkB, hm] at hq; exact hq
  · exact hq.elim
theorem okS3 : OkSp Try.prog H0 S3 := ⟨⟨ok69, ok31', ok128, ok36, ok13, ok29, ok49, okS1.fn⟩, trivial⟩
theorem ok127 : OkS Try.prog H0 127 sLink := by
  intro args h Q hq
  unfold sLink at hq
  split at hq
  · rename_i n a b
    obtain ⟨⟨h0, h1⟩, hq⟩ := hyp_iff.1 hq
    refine in_ok (S := S3) (U := 6) (k := 6) okS3 (to (nf127 ..) ?_)
    unfold s_linkN s_linkB s_linkO at hq
    rw [show n * 0 = 0 by omega, show n * 1 = n by omega, show IntKind.i64.wrap 0 = 0 by decide, wr (x := n) (by omega) (by omega)]
    by_cases hr : a < 0 ∨ b < 0 ∨ n ≤ a ∨ n ≤ b
    · rw [if_pos hr] at hq
      refine br_intro (fun c1 => hq) fun c1 => br_intro (fun c2 => hq) fun c2 => br_intro (fun c3 => hq) fun c3 => br_intro (fun c4 => hq) fun c4 => ?_
      simp only [decide_eq_false_iff_not] at c1 c2 c3 c4
      omega
    · rw [if_neg hr] at hq
      rw [wr (x := a + 0) (by omega) (by omega), wr (x := b + 0) (by omega) (by omega), wr (x := a + n) (by omega) (by omega), wr (x := b + n) (by omega) (by omega), Int.add_zero, Int.add_zero]
      refine br_intro (fun c1 => ?_) fun c1 => br_intro (fun c2 => ?_) fun c2 => br_intro (fun c3 => ?_) fun c3 => br_intro (fun c4 => ?_) fun c4 => ?_
      · have := of_decide_eq_true c1; omega
      · have := of_decide_eq_true c2; omega
      · have := of_decide_eq_true c3; omega
      · have := of_decide_eq_true c4; omega
      refine hyp_iff.2 ⟨by omega, br_intro (fun d1 => ?_) fun d1 => hyp_iff.2 ⟨by omega, br_intro (fun d2 => ?_) fun d2 => hyp_iff.2 ⟨by omega, br_intro (fun d3 => ?_) fun d3 => hyp_iff.2 ⟨by omega, br_intro (fun d4 => ?_) fun d4 => ?_⟩⟩⟩⟩
      all_goals simp only [beq_iff_eq, beq_eq_false_iff_ne] at *
      · rw [if_pos d1] at hq; exact hq
      · rw [if_neg d1, if_pos d2] at hq; exact hq
      · rw [if_neg d1, if_neg d2, if_pos d3] at hq; exact hq
      · rw [if_neg d1, if_neg d2, if_neg d3, if_pos d4] at hq; exact hq
      · rw [if_neg d1, if_neg d2, if_neg d3, if_neg d4] at hq; exact hq
  · exact hq.elim
theorem ok11 : OkS Try.prog H0 11 sKnown := by
  intro args h Q hq
  unfold sKnown at hq
  split at hq
  · exact in_ok (S := S0) (U := 8) (k := 8) okS0 (to (nf11 ..) hq)
  · exact hq.elim
theorem okS4 : OkSp Try.prog H0 S4 := ⟨⟨ok127, ok11, okS3.fn⟩, trivial⟩
theorem isRN_cases {v : AV} (h : isRN v = true) : v = .nils ∨ ∃ nl sh rs, v = .row nl sh rs := by
  cases v <;> simp [isRN] at h
  · exact .inl rfl
  · exact .inr ⟨_, _, _, rfl⟩
theorem hit_form {n kind at_ fm dst : Int} {Q : AV × List AObj → Prop} (h0 : 0 < n ∧ n ≤ 1000) (hq : Q (.bool (s_hit n kind at_ fm dst), [])) : br (kind == (1 : Int))
 (Q ((AV.bool (fm == at_), [])))
 (br (kind == (2 : Int))
  (((Hyp ((0 : Int) < n ∧ n ≤ (1000 : Int))) ∧
  (br (s_linkB n fm dst)
   (Q ((AV.bool (s_linkN n fm dst == at_), [])))
   (Q ((AV.bool false, []))))))
  (Q ((AV.bool false, [])))) := by
  unfold s_hit at hq
  refine br_intro (fun c => ?_) fun c => br_intro (fun c2 => hyp_iff.2 ⟨h0, br_intro (fun c3 => ?_) fun c3 => ?_⟩) fun c2 => ?_
  all_goals simp only [beq_iff_eq, beq_eq_false_iff_ne] at *
  · rw [if_pos c] at hq; exact hq
  · rw [if_neg c, if_pos c2, c3] at hq; exact hq
  · rw [if_neg c, if_pos c2, c3] at hq; exact hq
  · rw [if_neg c, if_neg c2] at hq; exact hq
theorem ok25 : OkS Try.prog H0 25 sHits := by
  intro args h Q hq
  unfold sHits at hq
  split at hq
  · obtain ⟨hd, hq⟩ := chk_iff.1 hq
    obtain ⟨h0, hQ⟩ := hyp_iff.1 hq
    refine in_ok (S := S4) (U := 6) (k := 6) okS4 ?_
    rcases isRN_cases hd with rfl | ⟨nl, sh, ds, rfl⟩
    · exact to (nf25n ..) (hit_form h0 hQ)
    · exact to (nf25r ..) (hit_form h0 hQ)
  · exact hq.elim
theorem right_form {kind at_ to_ ro node : Int} {Q : AV × List AObj → Prop} (hq : Q (.bool (s_right kind at_ to_ ro node), [])) : br (kind == (1 : Int))
 (br (!node == at_)
  (Q ((AV.bool true, [])))
  (Q ((AV.bool (decide (ro ≥ to_)), []))))
 (br (kind == (2 : Int))
  (Q ((AV.bool true, [])))
  (Q ((AV.bool true, [])))) := by
  unfold s_right at hq
  cases hk : (kind == (1 : Int)) with
  | true =>
    rw [hk] at hq
    cases hn : (node == at_) with
    | true => rw [hn] at hq; simpa [br] using hq
    | false => rw [hn] at hq; simpa [br] using hq
  | false =>
    rw [hk] at hq
    have hq : Q (.bool true, []) := by simpa using hq
    exact br_intro (fun c => by cases c) fun _ => br_intro (fun _ => hq) fun _ => hq
theorem ok27 : OkS Try.prog H0 27 sRight := by
  intro args h Q hq
  unfold sRight at hq
  split at hq
  · obtain ⟨hd, hQ⟩ := chk_iff.1 hq
    refine in_ok (S := S4) (U := 6) (k := 6) okS4 ?_
    rcases isRN_cases hd with rfl | ⟨nl, sh, ds, rfl⟩
    · exact to (nf27n ..) (right_form hQ)
    · exact to (nf27r ..) (right_form hQ)
  · exact hq.elim
theorem ok50 : OkS Try.prog H0 50 sPick := by
  intro args h Q hq
  unfold sPick at hq
  split at hq
  · rename_i n m
    obtain ⟨hb, hq⟩ := chk_iff.1 hq
    refine in_ok (S := S4) (U := 6) (k := 6) okS4 (to (nf50 ..) ?_)
    rcases br_iff.1 hq with ⟨c, hq⟩ | ⟨c, hq⟩
    · rw [c]; exact hq
    · rw [c]
      have h0 : 0 < m := by have := of_decide_eq_false c; omega
      refine (br_f).2 (chk_iff.2 ⟨by omega, chk_iff.2 ⟨by omega, ?_⟩⟩)
      have hb2 := tmod_rem n h0
      have hr := rem_lt n h0
      have h3 := Int.lt_tmod_of_pos n h0
      have h4 := Int.tmod_lt_of_pos n h0
      have e : (IntKind.i64.wrap (n.tmod m + m)).tmod m = s_rem n m := by
        rw [wr (by omega) (by omega), Int.tmod_eq_emod_of_nonneg (by omega)]
        by_cases hlt : n.tmod m < 0
        · rw [hb2.1 hlt]; exact Int.emod_eq_of_lt hr.1 hr.2
        · rw [hb2.2 hlt]
          rw [Int.add_emod_right]; exact Int.emod_eq_of_lt hr.1 hr.2
      rw [e]
      rcases br_iff.1 hq with ⟨c1, hq⟩ | ⟨c1, hq⟩
      · have c1 := of_decide_eq_true c1
        rw [show s_rem n m = 0 by omega]; exact hq
      · exact hq
  · exact hq.elim
theorem okS5 : OkSp Try.prog H0 S5 := ⟨⟨ok25, ok27, ok50, okS4.fn⟩, trivial⟩
theorem okNo (g : FuncId) : OkS Try.prog H0 g sNo := fun _ _ _ h => h.elim
theorem okS5n : OkSp Try.prog H0 S5n := ⟨⟨okNo _, okNo _, okNo _, okNo _, okS5.fn⟩, trivial⟩
theorem ok51 : OkS Try.prog H0 51 sDone := by
  intro args h Q hq
  unfold sDone at hq
  split at hq
  · rename_i n pi e g fi nl rs how m text ro sl base
    obtain ⟨⟨h0, h1, h2⟩, hq⟩ := hyp_iff.1 hq
    refine in_ok (S := S5n) (U := 6) (k := 6) okS5n (to (nf51 ..) ?_)
    have hr := rem_lt how (show (0 : Int) < 7 by omega)
    rw [wr (x := (base.size : Int) + 1) (by omega) (by omega)]
    unfold s_done at hq
    generalize hz : (base.size : Int) + 1 = z at hq ⊢
    refine br_intro (fun c1 => ?_) fun c1 => br_intro (fun c2 => ?_) fun c2 => br_intro (fun c3 => ?_) fun c3 => br_intro (fun c4 => ?_) fun c4 => br_intro (fun c5 => ?_) fun c5 => br_intro (fun c6 => ?_) fun c6 => ?_
    all_goals simp only [beq_iff_eq, beq_eq_false_iff_ne] at *
    · rw [if_pos c1] at hq; exact hq
    · rw [if_neg c1, if_pos c2] at hq
      have hb := rem_lt m (show (0 : Int) < z by omega)
      refine chk_iff.2 ⟨by omega, br_intro (fun d1 => ?_) fun d1 => br_intro (fun d2 => ?_) fun d2 => chk_iff.2 ⟨by omega, hq⟩⟩
      · have := of_decide_eq_true d1; omega
      · have d2 := of_decide_eq_true d2
        rw [show (s_rem m z).toNat = 0 by omega] at hq; exact hq
    · rw [if_neg c1, if_neg c2, if_pos c3] at hq
      exact hyp_iff.2 ⟨by omega, hq⟩
    · omega
    · omega
    · omega
    · rw [if_neg c1, if_neg c2, if_neg c3] at hq; exact hq
  · exact hq.elim
theorem okS6 : OkSp Try.prog H0 S6 := ⟨⟨ok51, okS5.fn⟩, trivial⟩
theorem confOk_n {n pi e g fi : Int} {ps : List Int} (h : s_confOk n pi e g fi ps = true) : 6 ≤ n ∧ n ≤ 12 := by
  simp only [s_confOk, Bool.and_eq_true, decide_eq_true_eq] at h
  obtain ⟨⟨⟨⟨⟨⟨⟨⟨⟨⟨⟨h1, h2⟩, _⟩, _⟩, _⟩, _⟩, _⟩, _⟩, _⟩, _⟩, _⟩, _⟩ := h
  exact ⟨h1, h2⟩
theorem ok23 : OkS Try.prog H0 23 sEmit := by
  intro args h Q hq
  unfold sEmit at hq
  split at hq
  · rename_i n pi e g fi nl rs kind at_ fr to_ nl2 acts devs ro sl fm dst base
    obtain ⟨hd, hq1⟩ := chk_iff.1 hq
    obtain ⟨⟨hc, r1, r2, s1, s2, d1, d2, hz, hal, hact⟩, hQ⟩ := hyp_iff.1 hq1
    clear hq1 hq
    refine in_ok (S := S6) (U := 6) (k := 6) okS6 ?_
    have hn := confOk_n hc
    have hk : IntKind.i64.wrap (IntKind.i64.wrap (IntKind.i64.wrap (17 * ro) + IntKind.i64.wrap (5 * sl)) + dst) = 17 * ro + 5 * sl + dst := by
      rw [wr (x := 17 * ro) (by omega) (by omega), wr (x := 5 * sl) (by omega) (by omega), wr (x := 17 * ro + 5 * sl) (by omega) (by omega), wr (by omega) (by omega)]
    have hdone : ∀ i : Nat, i < acts.length → s_rem (actHow (acts.getD i [])) 7 ≤ 3 ∧ (base.size : Int) ≤ 2305843009213693952 ∧ ((actText (acts.getD i [])).size : Int) ≤ 2305843009213693952 := fun i hi => by
      have := hact (acts.getD i []) (by rw [List.getD_eq_getElem?_getD, List.getElem?_eq_getElem hi]; simp)
      exact ⟨this.1, hz, this.2⟩
    unfold s_emit at hQ
    rcases isRN_cases hd with rfl | ⟨nl3, sh, ds, rfl⟩
    · refine to (nf23n ..) ?_
      rw [hk]
      refine ⟨.mk hc, .mk (by omega), ?_⟩
      refine br_intro (fun c1 => ?_) fun c1 => ?_
      · rw [if_pos (.inl (by simpa using c1))] at hQ; exact hQ
      simp only [Bool.not_eq_false'] at c1
      refine br_intro (fun c2 => ?_) fun c2 => ?_
      · rw [if_pos (.inr (of_decide_eq_true c2))] at hQ; exact hQ
      have c2 := of_decide_eq_false c2
      rw [if_neg (by rw [c1]; simp; omega)] at hQ
      refine br_intro (fun c3 => ?_) fun c3 => ?_
      · rw [if_pos (.inl (of_decide_eq_true c3))] at hQ; exact hQ
      have c3 := of_decide_eq_false c3
      rw [chk_iff]
      refine ⟨by omega, ?_⟩
      refine br_intro (fun c4 => ?_) fun c4 => ?_
      · rw [if_pos (.inr (by have := of_decide_eq_true c4; omega))] at hQ; exact hQ
      have c4 := of_decide_eq_false c4
      rw [if_neg (by omega)] at hQ
      have hr := rem_lt (17 * ro + 5 * sl + dst) (show (0 : Int) < acts.length by omega)
      refine br_intro (fun c5 => ?_) fun c5 => ?_
      · have c5 := of_decide_eq_true c5
        rw [show (s_rem (17 * ro + 5 * sl + dst) acts.length).toNat = 0 by omega] at hQ
        rw [chk_iff]
        exact ⟨by omega, .mk (hdone 0 (by omega)), hQ⟩
      refine br_intro (fun c6 => ?_) fun c6 => ?_
      · have := of_decide_eq_true c6; omega
      rw [chk_iff]
      exact ⟨hr, .mk (hdone _ (by omega)), hQ⟩
    · refine to (nf23r ..) ?_
      rw [hk]
      refine ⟨.mk hc, .mk (by omega), ?_⟩
      refine br_intro (fun c1 => ?_) fun c1 => ?_
      · rw [if_pos (.inl (by simpa using c1))] at hQ; exact hQ
      simp only [Bool.not_eq_false'] at c1
      refine br_intro (fun c2 => ?_) fun c2 => ?_
      · rw [if_pos (.inr (of_decide_eq_true c2))] at hQ; exact hQ
      have c2 := of_decide_eq_false c2
      rw [if_neg (by rw [c1]; simp; omega)] at hQ
      refine br_intro (fun c3 => ?_) fun c3 => ?_
      · rw [if_pos (.inl (of_decide_eq_true c3))] at hQ; exact hQ
      have c3 := of_decide_eq_false c3
      rw [chk_iff]
      refine ⟨by omega, ?_⟩
      refine br_intro (fun c4 => ?_) fun c4 => ?_
      · rw [if_pos (.inr (by have := of_decide_eq_true c4; omega))] at hQ; exact hQ
      have c4 := of_decide_eq_false c4
      rw [if_neg (by omega)] at hQ
      have hr := rem_lt (17 * ro + 5 * sl + dst) (show (0 : Int) < acts.length by omega)
      refine br_intro (fun c5 => ?_) fun c5 => ?_
      · have c5 := of_decide_eq_true c5
        rw [show (s_rem (17 * ro + 5 * sl + dst) acts.length).toNat = 0 by omega] at hQ
        rw [chk_iff]
        exact ⟨by omega, .mk (hdone 0 (by omega)), hQ⟩
      refine br_intro (fun c6 => ?_) fun c6 => ?_
      · have := of_decide_eq_true c6; omega
      rw [chk_iff]
      exact ⟨hr, .mk (hdone _ (by omega)), hQ⟩
  · exact hq.elim
theorem okS7 : OkSp Try.prog H0 S7 := ⟨⟨ok23, okS6.fn⟩, trivial⟩
end Go.Proofs.YtikmaidjpffakaaE
