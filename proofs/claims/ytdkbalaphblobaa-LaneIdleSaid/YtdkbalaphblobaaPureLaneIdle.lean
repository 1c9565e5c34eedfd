/- Proves LaneIdle: a compared lane whose far link is idle from some symbol on passes nothing on from there; one that does not compare passes on all (no condition on the inputs). -/
import Derived.Test.YtdkbalaphblobaaLane
import Derived.Test.YtdkbalaphblobaaPx28
namespace Go.Proofs.Ytdkbalaphblobaa.Pure
open Go.RowKit Go.Proofs.Ytdkbalaphblobaa.P Go.Proofs.YtdkbalaphblobaaW.PrintWords Go.Proofs.YtdkbalaphblobaaW.PrintLast
theorem l7_within (a n : Int) (hn : 0 < n) (hb : n ≤ 1000000000000) : plaitinglaw7_within.f a n = some (a % n) := within_gen a n hn hb
/-- A lane that is not over passes on what comes by both links, till it is over. -/
def goOn (cmp : Bool) (j : Nat) (i : Nat) : List UInt8 → Bool → List UInt8
  | [], _ => []
  | c :: t, shut => if (!shut && laneGoes cmp (c.toNat : Int) (if i < j then (c.toNat : Int) else 46)) = true then c :: goOn cmp j (i + 1) t (c == 35) else goOn cmp j (i + 1) t true
theorem goOn_shut (cmp : Bool) (j : Nat) : ∀ (l : List UInt8) (i : Nat), goOn cmp j i l true = []
  | [], _ => rfl
  | c :: t, i => by rw [goOn]; simp only [Bool.not_true, Bool.false_and, Bool.false_eq_true, if_false]; exact goOn_shut cmp j t (i + 1)
theorem goOn_clean (cmp : Bool) (j : Nat) : ∀ (l : List UInt8) (i : Nat), cleanL l = l → goOn cmp j i l false = if cmp = true then l.take (j - i) else l
  | [], i, _ => by cases cmp <;> simp [goOn]
  | c :: t, i, h => by
    rw [cleanL] at h
    rw [goOn, laneGoes_u8]
    by_cases hb : isBit c = true
    · have hn : (c == 35) = false := by rw [beq_eq_false_iff_ne]; rintro rfl; exact absurd hb (by decide)
      rw [if_pos hb] at h
      have ht : cleanL t = t := (List.cons.inj h).2
      have ih := goOn_clean cmp j t (i + 1) ht
      rw [hb, hn, Bool.true_or, Bool.true_and, Bool.not_false, Bool.true_and]
      cases cmp with
      | false => simp only [Bool.not_false, Bool.true_or, if_true, ih]; simp
      | true =>
        simp only [Bool.not_true, Bool.false_or, if_true]
        by_cases hj : i < j
        · rw [if_pos hj, if_pos (by simp), ih, if_pos rfl, show j - i = (j - (i + 1)) + 1 from by omega, List.take_succ_cons]
        · rw [if_neg hj, if_neg (by
            rw [beq_iff_eq]
            intro q
            have : c = 46 := (u8_eq c 46 (by decide)).1 q.symm
            subst this
            exact absurd hb (by decide)), goOn_shut, show j - i = 0 from by omega]
          simp
    · rw [if_neg hb] at h
      rw [Bool.not_eq_true] at hb
      by_cases he : c = 35
      · subst he
        rw [if_pos rfl] at h
        have ht : t = [] := (List.cons.inj h).2.symm
        subst ht
        rw [hb]
        cases cmp with
        | false => simp [goOn]
        | true =>
          simp only [Bool.not_true, Bool.false_or, beq_self_eq_true, Bool.true_and, Bool.not_false, if_true]
          by_cases hj : i < j
          · rw [if_pos hj, if_pos (by simp)]
            obtain ⟨m, hm⟩ : ∃ m, j - i = m + 1 := ⟨j - i - 1, by omega⟩
            rw [hm]
            simp [goOn]
          · rw [if_neg hj, if_neg (by decide), show j - i = 0 from by omega]
            simp [goOn]
      · rw [if_neg he] at h
        cases h
theorem idle_loop (cmp : Bool) (s : ByteArray) (j : Nat) (hs : s.size ≤ 1000) : ∀ d (k i : Nat) (acc : ByteArray) (shut : Bool), s.size - i = d → i ≤ s.size → acc.size ≤ i →
    plaitinglaw7_LaneIdle.l0 (k + d + 1) cmp s (j : Int) acc (i : Int) cmp shut = plaitinglaw7_LaneIdle.l0 (k + 1) cmp s (j : Int) (acc ++ ofL (goOn cmp j i ((toL s).drop i) shut)) (s.size : Int) cmp true := by
  intro d
  induction d with
  | zero =>
    intro k i acc shut h1 h0 ha
    have hi : i = s.size := by omega
    subst hi
    have hd : (toL s).drop s.size = [] := List.drop_eq_nil_of_le (by rw [toL_length]; omega)
    have hnil : acc ++ ofL [] = acc := toL_inj (by rw [toL_append, toL_ofL, List.append_nil])
    have e : ¬ ((s.size : Int) < (s.size : Int)) := by omega
    rw [hd, goOn, hnil, plaitinglaw7_LaneIdle.l0, plaitinglaw7_LaneIdle.l0]
    simp only [if_neg e]
  | succ d ih =>
    intro k i acc shut h1 h0 ha
    have hi : i < s.size := by omega
    have hl : i < (toL s).length := by rw [toL_length]; exact hi
    have hw : wrap64 ((i : Int) + 1) = ((i + 1 : Nat) : Int) := by rw [w64 (by omega) (by omega)]; rfl
    have hb := bt_range s (i : Int)
    conv => lhs; rw [show k + (d + 1) + 1 = (k + d + 1) + 1 from by omega, plaitinglaw7_LaneIdle.l0]
    rw [if_pos (by omega), hw, List.drop_eq_getElem_cons hl, goOn]
    have hbt := bt_eq s i hi
    rw [hbt] at hb ⊢
    generalize (toL s)[i] = c at *
    have hne : laneGoes cmp (c.toNat : Int) (if i < j then (c.toNat : Int) else 46) = true → ¬ (c.toNat : Int) = 46 := fun h => laneGoes_ne _ _ _ h
    have hstr : strOfNums [(c.toNat : Int)] = ofL [c] := by
      apply toL_inj
      show ([(c.toNat : Int)].map fun n => UInt8.ofNat n.toNat) = [c]
      rw [List.map_cons, List.map_nil, u8_back]
    have hone : (ofL [c]).size = 1 := by rw [ofL_size]; rfl
    have hap : ∀ t, acc ++ ofL [c] ++ ofL t = acc ++ ofL (c :: t) := fun t => toL_inj (by rw [toL_append, toL_append, toL_append, toL_ofL, toL_ofL, toL_ofL, List.append_assoc]; rfl)
    by_cases hj : i < j
    · rw [if_pos (show (i : Int) < (j : Int) by omega), if_pos (by omega), lane_step_eq _ _ _ _ hb.1 hb.2, Option.bind_some]
      rw [if_pos hj] at hne ⊢
      by_cases hg : (!shut && laneGoes cmp (c.toNat : Int) (c.toNat : Int)) = true
      · rw [if_pos hg, if_pos hg]
        simp only
        rw [if_neg (hne (by rw [Bool.and_eq_true] at hg; exact hg.2)), Option.bind_some, hstr, if_pos (by omega), ih k (i + 1) _ _ (by omega) (by omega) (by rw [ByteArray.size_append]; omega), hap]
        have he : ((c.toNat : Int) == 35) = (c == 35) := by rw [Bool.eq_iff_iff, beq_iff_eq, beq_iff_eq]; exact u8_35 c
        rw [he]
      · rw [if_neg hg, if_neg hg]
        simp only
        rw [if_pos trivial, ih k (i + 1) _ _ (by omega) (by omega) (by omega)]
    · rw [if_neg (show ¬ (i : Int) < (j : Int) by omega), if_pos (by omega), lane_step_eq _ _ _ _ hb.1 hb.2, Option.bind_some]
      rw [if_neg hj] at hne ⊢
      by_cases hg : (!shut && laneGoes cmp (c.toNat : Int) 46) = true
      · rw [if_pos hg, if_pos hg]
        simp only
        rw [if_neg (hne (by rw [Bool.and_eq_true] at hg; exact hg.2)), Option.bind_some, hstr, if_pos (by omega), ih k (i + 1) _ _ (by omega) (by omega) (by rw [ByteArray.size_append]; omega), hap]
        have he : ((c.toNat : Int) == 35) = (c == 35) := by rw [Bool.eq_iff_iff, beq_iff_eq, beq_iff_eq]; exact u8_35 c
        rw [he]
      · rw [if_neg hg, if_neg hg]
        simp only
        rw [if_pos trivial, ih k (i + 1) _ _ (by omega) (by omega) (by omega)]
theorem LaneIdle : plaitinglaw7_LaneIdle.Pure := by
  intro l a cmp h0 _ _ _
  refine ⟨1000, ?_⟩
  unfold plaitinglaw7_LaneIdle.f
  rw [lane_known]
  simp only [Option.bind_some, if_true]
  have a0 := text_sz l
  have c0 := cleanL_length (toL (ofL (textL l)))
  rw [toL_length] at c0
  rw [text_eq _ l h0 (by omega), Option.bind_some, clean_eq _ _ (by omega) (by omega), Option.bind_some]
  have hcl := cleanL_idem (toL (ofL (textL l)))
  have hS : (ofL (cleanL (toL (ofL (textL l))))).size ≤ 80 := by rw [ofL_size]; omega
  rw [show cleanL (toL (ofL (textL l))) = toL (ofL (cleanL (toL (ofL (textL l))))) from rfl] at hcl
  generalize ofL (cleanL (toL (ofL (textL l)))) = s at *
  clear c0 a0
  rw [w64 (by omega) (by omega), l7_within _ _ (by omega) (by omega), Option.bind_some]
  have hm := mod_bounds a ((s.size : Int) + 1) (by omega)
  generalize a % ((s.size : Int) + 1) = j at *
  obtain ⟨j, rfl⟩ := Int.eq_ofNat_of_zero_le hm.1
  unfold lane_New.f
  rw [Option.bind_some]
  simp only
  have h := idle_loop cmp s j (by omega) s.size (999 - s.size) 0 ⟨#[]⟩ false rfl (by omega) (by decide)
  rw [show 999 - s.size + s.size + 1 = 1000 from by omega] at h
  have h' : plaitinglaw7_LaneIdle.l0 1000 cmp s (j : Int) (⟨#[]⟩ : ByteArray) 0 cmp false = _ := h
  rw [h', List.drop_zero, goOn_clean cmp j _ 0 hcl, plaitinglaw7_LaneIdle.l0, if_neg (by omega)]
  have hnil : ∀ t, (⟨#[]⟩ : ByteArray) ++ ofL t = ofL t := fun t => toL_inj (by rw [toL_append]; rfl)
  rw [hnil]
  have hex : s.extract 0 (((j : Int) : Int)).toNat = ofL ((toL s).take j) := by rw [extract_ofL, Int.toNat_natCast]
  cases cmp with
  | true =>
    have hsp : laneSpec true (toL s) (toL (ofL ((toL s).take j))) = (toL s).take j := by
      show commonL (cleanL _) (cleanL _) = _
      rw [toL_ofL, hcl, cleanL_front ((toL s).take j) (toL s) (by rw [hcl]; exact List.take_prefix _ _), commonL_comm]
      exact commonL_of_prefix _ _ (List.take_prefix _ _)
    rw [if_pos rfl, if_pos (by omega), if_pos (by omega), if_pos rfl, Nat.sub_zero, hex, if_pos rfl, lane_Out_eq _ _ _ (by omega), Option.bind_some, hsp]
    simp
  | false =>
    have hsp : laneSpec false (toL s) (toL (ofL ((toL s).take j))) = toL s := hcl
    simp only [Bool.false_eq_true, if_false]
    rw [ofL_toL, if_pos rfl, if_pos (by omega), if_pos (by omega), hex, lane_Out_eq _ _ _ (by omega), Option.bind_some, hsp, ofL_toL]
    simp

end Go.Proofs.Ytdkbalaphblobaa.Pure
