/- Clean, Common, Front, Text of the references, as functions on lists of bytes. -/
import Derived.Test.YtcpohmfkmgcjkaaQFrameLongAid
import Derived.Test.YtcpohmfkmgcjkaaQFrameLongMath
import Derived.Test.YtcpohmfkmgcjkaaQFrameLongTxt
import Derived.Test.YtcpohmfkmgcjkaaQFrameLongPx15
import Derived.Test.YtcpohmfkmgcjkaaQFrameLongPx20
namespace Go.Proofs.Ytcpohmfkmgcjkaa.P
open Go.RowKit Go.Proofs.YtcpohmfkmgcjkaaW.PrintWords Go.Proofs.YtcpohmfkmgcjkaaW.PrintLast Go.Proofs.YtcpohmfkmgcjkaaW.PrintMore
attribute [local go_sem] max2_int min2_int max_two min_two max_three min_three max_four min_four
set_option linter.unusedVariables false
set_option linter.unusedSimpArgs false
theorem symbol_eq (c : UInt8) : plaitingref1_symbol.f (c.toNat : Int) = some (isBit c || c == 35) := by
  unfold plaitingref1_symbol.f isBit
  have a := u8_48 c
  have b := u8_49 c
  have d := u8_35 c
  by_cases h1 : c = 48
  · subst h1; rfl
  · by_cases h2 : c = 49
    · subst h2; rfl
    · rw [if_neg (fun h => h1 (a.1 h)), if_neg (fun h => h2 (b.1 h)), beq_eq_false_iff_ne.mpr h1, beq_eq_false_iff_ne.mpr h2]
      by_cases h3 : c = 35
      · subst h3; rfl
      · rw [beq_eq_false_iff_ne.mpr h3, beq_eq_false_iff_ne.mpr (fun h => h3 (d.1 h))]
        rfl
theorem clean_loop (s : ByteArray) (hs : s.size ≤ 140737488351232) : ∀ d (k i : Nat), s.size - i = d → i ≤ s.size → d < k → plaitingref1_Clean.l0 k s (i : Int) = some (ofL ((toL s).take i ++ cleanL ((toL s).drop i))) := by
  intro d
  induction d with
  | zero =>
    intro k i h1 h0 h2
    obtain ⟨k, rfl⟩ : ∃ m, k = m + 1 := ⟨k - 1, by omega⟩
    have hi : i = (toL s).length := by rw [toL_length]; omega
    rw [plaitingref1_Clean.l0, if_neg (by omega), hi, List.drop_length, List.take_length]
    simp [cleanL, ofL_toL]
  | succ d ih =>
    intro k i h1 h0 h2
    obtain ⟨k, rfl⟩ : ∃ m, k = m + 1 := ⟨k - 1, by omega⟩
    have hi : i < s.size := by omega
    have hl : i < (toL s).length := by rw [toL_length]; exact hi
    have hw : wrap64 ((i : Int) + 1) = ((i + 1 : Nat) : Int) := by rw [w64 (by omega) (by omega)]; rfl
    rw [plaitingref1_Clean.l0, if_pos (by omega), if_pos (by omega), bt_eq s i hi, symbol_eq, Option.bind_some, hw, List.drop_eq_getElem_cons hl, cleanL]
    have hc := u8_35 (toL s)[i]
    generalize hcc : (toL s)[i] = c at *
    have htk : (toL s).take (i + 1) = (toL s).take i ++ [c] := by rw [List.take_succ_eq_append_getElem hl, hcc]
    by_cases hb : isBit c = true
    · have hn : ¬ c = 35 := by rintro rfl; exact absurd hb (by decide)
      rw [if_pos (by rw [hb]; rfl), if_neg (fun h => hn (hc.1 h)), ih k (i + 1) (by omega) (by omega) (by omega), if_pos hb, htk, List.append_assoc]
      rfl
    · rw [if_neg hb]
      rw [Bool.not_eq_true] at hb
      by_cases h35 : c = 35
      · rw [if_pos (by rw [hb, h35]; rfl), if_pos (hc.2 h35), if_pos (by omega), if_pos (by omega), if_pos h35, Int.toNat_natCast, extract_ofL, htk]
      · rw [if_neg (by rw [hb, beq_eq_false_iff_ne.mpr h35]; decide), if_pos (by omega), if_neg h35, Int.toNat_natCast, extract_ofL, List.append_nil]
theorem clean_eq (k : Nat) (s : ByteArray) (hs : s.size ≤ 140737488351232) (hk : s.size < k) : plaitingref1_Clean.f k s = some (ofL (cleanL (toL s))) := by
  unfold plaitingref1_Clean.f
  have := clean_loop s hs _ k 0 rfl (by omega) (by omega)
  simpa using this
theorem toList_toL (s : ByteArray) : s.toList = toL s := ByteArray.toList_eq s
theorem cleanL_tail : ∀ l : List UInt8, (∀ c ∈ l, isBit c = true) → cleanL (l ++ [35]) = l ++ [35]
  | [], _ => rfl
  | c :: t, h => by
    rw [List.cons_append, cleanL, if_pos (h c List.mem_cons_self), cleanL_tail t (fun x hx => h x (List.mem_cons_of_mem _ hx))]
theorem whole_eq (k : Nat) (l : List UInt8) (hl : l.length ≤ 1000000) (hb : ∀ c ∈ l, isBit c = true) (hk : l.length + 1 < k) : plaitingref1_Whole.f k (ofL (l ++ [35])) = some true := by
  have hs : (ofL (l ++ [35])).size = l.length + 1 := by rw [ofL_size, List.length_append]; rfl
  unfold plaitingref1_Whole.f
  rw [if_neg (by rw [toList_toL, toL_ofL]; simp), clean_eq k _ (by rw [hs]; omega) (by rw [hs]; omega), Option.bind_some, toL_ofL, cleanL_tail l hb, if_pos rfl, hs]
  have w1 : wrap64 (((l.length + 1 : Nat) : Int) - 1) = (l.length : Int) := by rw [w64 (by omega) (by omega)]; omega
  rw [w1, if_pos (by omega), if_pos (by omega), bt_eq _ _ (by rw [hs]; omega)]
  congr 1
  simp [toL_ofL]
end Go.Proofs.Ytcpohmfkmgcjkaa.P
