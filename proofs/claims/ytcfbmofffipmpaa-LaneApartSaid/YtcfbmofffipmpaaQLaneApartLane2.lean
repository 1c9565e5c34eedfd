/- Plain lemmas on relays: what lane.Out passes on, as functions on lists of bytes. -/
import Derived.Test.YtcfbmofffipmpaaQLaneApartSyms
import Derived.Test.YtcfbmofffipmpaaQLaneApartPx4
namespace Go.Proofs.Ytcfbmofffipmpaa.P
open Go.RowKit Go.Proofs.YtcfbmofffipmpaaW.PrintWords Go.Proofs.YtcfbmofffipmpaaW.PrintLast Go.Proofs.YtcfbmofffipmpaaW.PrintMore
attribute [local go_sem] max2_int min2_int max_two min_two max_three min_three max_four min_four
set_option linter.unusedVariables false
set_option linter.unusedSimpArgs false
theorem laneSym_at (s : ByteArray) (i : Nat) (h : i < s.size) : laneSym s i = (((toL s)[i]'(by rw [toL_length]; exact h)).toNat : Int) := by
  unfold laneSym
  rw [if_pos h, bt_eq s i h]
def laneSpec (cmp : Bool) (a b : List UInt8) : List UInt8 := if cmp = true then commonL (cleanL a) (cleanL b) else cleanL a
theorem u8_back (c : UInt8) : UInt8.ofNat ((c.toNat : Int)).toNat = c := by
  apply UInt8.toNat_inj.1
  rw [UInt8.toNat_ofNat', Int.toNat_natCast]
  have := c.toNat_lt
  omega
theorem laneGoes_u8 (cmp : Bool) (c : UInt8) (k : Int) : laneGoes cmp (c.toNat : Int) k = ((isBit c || c == 35) && (!cmp || k == (c.toNat : Int))) := by
  unfold laneGoes isBit
  have e1 : (((c.toNat : Int)) == 48) = (c == 48) := by rw [Bool.eq_iff_iff, beq_iff_eq, beq_iff_eq]; exact u8_48 c
  have e2 : (((c.toNat : Int)) == 49) = (c == 49) := by rw [Bool.eq_iff_iff, beq_iff_eq, beq_iff_eq]; exact u8_49 c
  have e3 : (((c.toNat : Int)) == 35) = (c == 35) := by rw [Bool.eq_iff_iff, beq_iff_eq, beq_iff_eq]; exact u8_35 c
  rw [e1, e2, e3]
theorem commonL_nil (a : List UInt8) : commonL a [] = [] := by cases a <;> simp [commonL]
theorem commonL_clean_ne (c x : UInt8) (t u : List UInt8) (h : c ≠ x) : commonL (c :: t) (cleanL (x :: u)) = [] := by
  rw [cleanL]
  split
  · rw [commonL, if_neg h]
  · split
    · rw [commonL, if_neg h]
    · exact commonL_nil _
theorem laneOut_spec (cmp : Bool) (a b : ByteArray) : ∀ (n i : Nat), a.size + 1 - i ≤ n → laneOut cmp a b n i = laneSpec cmp ((toL a).drop i) ((toL b).drop i) := by
  intro n
  induction n with
  | zero =>
    intro i h
    have : (toL a).drop i = [] := List.drop_eq_nil_of_le (by rw [toL_length]; omega)
    rw [this]
    unfold laneSpec
    cases cmp <;> simp [laneOut, cleanL, commonL]
  | succ n ih =>
    intro i h
    by_cases hi : i < a.size
    · have hl : i < (toL a).length := by rw [toL_length]; exact hi
      rw [laneOut, laneSym_at a i hi, laneGoes_u8, u8_back, List.drop_eq_getElem_cons hl, ih (i + 1) (by omega)]
      generalize (toL a)[i] = c
      have h35 := u8_35 c
      generalize (toL a).drop (i + 1) = t
      unfold laneSpec
      rw [cleanL]
      by_cases hb : isBit c = true
      · have hn : ¬ c = 35 := by rintro rfl; exact absurd hb (by decide)
        rw [if_neg (fun e => hn (h35.1 e)), if_pos hb, hb, Bool.true_or, Bool.true_and]
        cases cmp with
        | false => simp
        | true =>
          simp only [Bool.not_true, Bool.false_or, if_true]
          by_cases hj : i < b.size
          · have hm : i < (toL b).length := by rw [toL_length]; exact hj
            rw [laneSym_at b i hj, List.drop_eq_getElem_cons hm]
            generalize (toL b)[i] = x
            generalize (toL b).drop (i + 1) = u
            by_cases e : c = x
            · subst e
              rw [if_pos (by simp), cleanL, if_pos hb, commonL, if_pos rfl]
            · rw [if_neg (by rw [beq_iff_eq]; exact fun q => e (UInt8.toNat_inj.1 (by omega))), commonL_clean_ne _ _ _ _ e]
          · have hd : (toL b).drop i = [] := List.drop_eq_nil_of_le (by rw [toL_length]; omega)
            have hs : laneSym b i = 46 := by unfold laneSym; rw [if_neg hj]
            rw [hd, hs]
            have : ((46 : Int) == (c.toNat : Int)) = false := by
              rw [beq_eq_false_iff_ne]
              intro q
              have : c = 46 := (u8_eq c 46 (by decide)).1 q.symm
              subst this
              exact absurd hb (by decide)
            rw [this]
            simp [cleanL, commonL_nil]
      · rw [if_neg hb]
        rw [Bool.not_eq_true] at hb
        rw [hb, Bool.false_or]
        by_cases he : c = 35
        · subst he
          rw [if_pos rfl]
          cases cmp with
          | false => simp
          | true =>
            simp only [Bool.not_true, Bool.false_or, if_true, beq_self_eq_true, Bool.true_and]
            by_cases hj : i < b.size
            · have hm : i < (toL b).length := by rw [toL_length]; exact hj
              rw [laneSym_at b i hj, List.drop_eq_getElem_cons hm]
              generalize (toL b)[i] = x
              generalize (toL b).drop (i + 1) = u
              by_cases e : x = 35
              · subst e
                rw [if_pos (by simp), if_pos (by rfl), cleanL, if_neg (by decide), if_pos rfl, commonL, if_pos rfl]
                simp [commonL]
              · rw [if_neg (by rw [beq_iff_eq]; exact fun q => e ((u8_35 x).1 q)), commonL_clean_ne _ _ _ _ (fun q => e q.symm)]
            · have hd : (toL b).drop i = [] := List.drop_eq_nil_of_le (by rw [toL_length]; omega)
              have hs : laneSym b i = 46 := by unfold laneSym; rw [if_neg hj]
              rw [hd, hs, if_neg (by decide), cleanL, commonL_nil]
        · rw [beq_eq_false_iff_ne.mpr he, if_neg he]
          cases cmp <;> simp [commonL]
    · have hd : (toL a).drop i = [] := List.drop_eq_nil_of_le (by rw [toL_length]; omega)
      have hs : laneSym a i = 46 := by unfold laneSym; rw [if_neg hi]
      rw [hd, laneOut, hs, if_neg (by simp [laneGoes])]
      unfold laneSpec
      cases cmp <;> simp [cleanL, commonL]
theorem lane_known : plaitinglaw7_known.f = some true := by decide +kernel
theorem text_sz (l : List Int) : (ofL (textL l)).size ≤ 80 := by rw [ofL_size]; exact textL_length l
end Go.Proofs.Ytcfbmofffipmpaa.P
