/- Clean, Common, Front, Text of the references, as functions on lists of bytes. -/
import Derived.Test.YtcpohmfkmgcjkaaQArbRightTxt
import Derived.Test.YtcpohmfkmgcjkaaQArbRightPx15
import Derived.Test.YtcpohmfkmgcjkaaQArbRightPx20
namespace Go.Proofs.Ytcpohmfkmgcjkaa.P
open Go.RowKit Go.Proofs.YtcpohmfkmgcjkaaW.PrintWords Go.Proofs.YtcpohmfkmgcjkaaW.PrintLast Go.Proofs.YtcpohmfkmgcjkaaW.PrintMore
attribute [local go_sem] max2_int min2_int max_two min_two max_three min_three max_four min_four
set_option linter.unusedVariables false
set_option linter.unusedSimpArgs false
theorem symbol_eq (c : UInt8) : plaitingref1_symbol.f (c.toNat : Int) = some (isBit c || c == 35) := by
  unfold plaitingref1_symbol.f isBit
  have a := u8_48 c
  have b := u8_49 c
  have d := u8_35 c
  by_cases h1 : c = 48
  · subst h1; rfl
  · by_cases h2 : c = 49
    · subst h2; rfl
    · rw [if_neg (fun h => h1 (a.1 h)), if_neg (fun h => h2 (b.1 h)), beq_eq_false_iff_ne.mpr h1, beq_eq_false_iff_ne.mpr h2]
      by_cases h3 : c = 35
      · subst h3; rfl
      · rw [beq_eq_false_iff_ne.mpr h3, beq_eq_false_iff_ne.mpr (fun h => h3 (d.1 h))]
        rfl
theorem clean_loop (s : ByteArray) (hs : s.size ≤ 140737488351232) : ∀ d (k i : Nat), s.size - i = d → i ≤ s.size → d < k → plaitingref1_Clean.l0 k s (i : Int) = some (ofL ((toL s).take i ++ cleanL ((toL s).drop i))) := by
  intro d
  induction d with
  | zero =>
    intro k i h1 h0 h2
    obtain ⟨k, rfl⟩ : ∃ m, k = m + 1 := ⟨k - 1, by omega⟩
    have hi : i = (toL s).length := by rw [toL_length]; omega
    rw [plaitingref1_Clean.l0, if_neg (by omega), hi, List.drop_length, List.take_length]
    simp [cleanL, ofL_toL]
  | succ d ih =>
    intro k i h1 h0 h2
    obtain ⟨k, rfl⟩ : ∃ m, k = m + 1 := ⟨k - 1, by omega⟩
    have hi : i < s.size := by omega
    have hl : i < (toL s).length := by rw [toL_length]; exact hi
    have hw : wrap64 ((i : Int) + 1) = ((i + 1 : Nat) : Int) := by rw [w64 (by omega) (by omega)]; rfl
    rw [plaitingref1_Clean.l0, if_pos (by omega), if_pos (by omega), bt_eq s i hi, symbol_eq, Option.bind_some, hw, List.drop_eq_getElem_cons hl, cleanL]
    have hc := u8_35 (toL s)[i]
    generalize hcc : (toL s)[i] = c at *
    have htk : (toL s).take (i + 1) = (toL s).take i ++ [c] := by rw [List.take_succ_eq_append_getElem hl, hcc]
    by_cases hb : isBit c = true
    · have hn : ¬ c = 35 := by rintro rfl; exact absurd hb (by decide)
      rw [if_pos (by rw [hb]; rfl), if_neg (fun h => hn (hc.1 h)), ih k (i + 1) (by omega) (by omega) (by omega), if_pos hb, htk, List.append_assoc]
      rfl
    · rw [if_neg hb]
      rw [Bool.not_eq_true] at hb
      by_cases h35 : c = 35
      · rw [if_pos (by rw [hb, h35]; rfl), if_pos (hc.2 h35), if_pos (by omega), if_pos (by omega), if_pos h35, Int.toNat_natCast, extract_ofL, htk]
      · rw [if_neg (by rw [hb, beq_eq_false_iff_ne.mpr h35]; decide), if_pos (by omega), if_neg h35, Int.toNat_natCast, extract_ofL, List.append_nil]
theorem clean_eq (k : Nat) (s : ByteArray) (hs : s.size ≤ 140737488351232) (hk : s.size < k) : plaitingref1_Clean.f k s = some (ofL (cleanL (toL s))) := by
  unfold plaitingref1_Clean.f
  have := clean_loop s hs _ k 0 rfl (by omega) (by omega)
  simpa using this
theorem l1_within (a n : Int) (hn : 0 < n) (hb : n ≤ 1000000000000) : plaitinglaw1_within.f a n = some (a % n) := within_gen a n hn hb
def textSyms : List ByteArray := [⟨#[48]⟩, ⟨#[49]⟩, ⟨#[48]⟩, ⟨#[49]⟩, ⟨#[48]⟩, ⟨#[49]⟩, ⟨#[48]⟩, ⟨#[49]⟩, ⟨#[35]⟩, ⟨#[46]⟩, ⟨#[120]⟩]
def textL (l : List Int) : List UInt8 := (l.take 80).map (fun x => (toL (textSyms.getD (x % 11).toNat ByteArray.empty)).headD 0)
theorem textSyms_one (n : Nat) (h : n < 11) : toL (textSyms.getD n ByteArray.empty) = [(toL (textSyms.getD n ByteArray.empty)).headD 0] := by
  match n, h with
  | 0, _ | 1, _ | 2, _ | 3, _ | 4, _ | 5, _ | 6, _ | 7, _ | 8, _ | 9, _ | 10, _ => rfl
  | n + 11, h => omega
theorem text_loop (l : List Int) (hl : l.length ≤ maxLen) : ∀ d (k i : Nat), 80 - i = d → i ≤ 80 → d < k → ∀ acc : ByteArray, acc.size ≤ i → plaitinglaw1_Text.l0 k l acc (i : Int) = some (acc ++ ofL (((l.drop i).take (80 - i)).map (fun x => (toL (textSyms.getD (x % 11).toNat ByteArray.empty)).headD 0))) := by
  intro d
  induction d with
  | zero =>
    intro k i h1 h0 h2 acc ha
    obtain ⟨k, rfl⟩ : ∃ m, k = m + 1 := ⟨k - 1, by omega⟩
    have hnil : acc ++ ofL [] = acc := toL_inj (by rw [toL_append, toL_ofL, List.append_nil])
    rw [plaitinglaw1_Text.l0, show 80 - i = 0 from h1, List.take_zero, List.map_nil, hnil]
    by_cases h : (i : Int) < (l.length : Int)
    · rw [if_pos h, if_neg (by omega)]
    · rw [if_neg h]
  | succ d ih =>
    intro k i h1 h0 h2 acc ha
    obtain ⟨k, rfl⟩ : ∃ m, k = m + 1 := ⟨k - 1, by omega⟩
    have hw : wrap64 ((i : Int) + 1) = ((i + 1 : Nat) : Int) := by rw [w64 (by omega) (by omega)]; rfl
    rw [plaitinglaw1_Text.l0]
    by_cases h : i < l.length
    · have hr : rd l (i : Int) = l[i] := by
        unfold rd
        rw [Int.toNat_natCast, List.getD_eq_getElem?_getD, List.getElem?_eq_getElem h]
        rfl
      have hb := mod_bounds l[i] 11 (by decide)
      have hone := textSyms_one (l[i] % 11).toNat (by omega)
      rw [if_pos (by omega), if_pos (by omega), Option.bind_some, if_pos (by omega), hr, l1_within _ 11 (by decide) (by decide), Option.bind_some, if_pos hb.1, if_pos (by simpa using hb.2), hw]
      have hrd : rdOf ByteArray.empty textSyms (l[i] % 11) = textSyms.getD (l[i] % 11).toNat ByteArray.empty := rfl
      have hrd' : rdOf ByteArray.empty [(⟨#[48]⟩ : ByteArray), (⟨#[49]⟩ : ByteArray), (⟨#[48]⟩ : ByteArray), (⟨#[49]⟩ : ByteArray), (⟨#[48]⟩ : ByteArray), (⟨#[49]⟩ : ByteArray), (⟨#[48]⟩ : ByteArray), (⟨#[49]⟩ : ByteArray), (⟨#[35]⟩ : ByteArray), (⟨#[46]⟩ : ByteArray), (⟨#[120]⟩ : ByteArray)] (l[i] % 11) = textSyms.getD (l[i] % 11).toNat ByteArray.empty := hrd
      rw [hrd']
      have hsz : (textSyms.getD (l[i] % 11).toNat ByteArray.empty).size = 1 := by rw [← toL_length, hone]; rfl
      rw [if_pos (by omega), ih k (i + 1) (by omega) (by omega) (by omega) _ (by rw [ByteArray.size_append]; omega)]
      congr 1
      apply toL_inj
      rw [toL_append, toL_append, toL_append, toL_ofL, toL_ofL, hone, List.drop_eq_getElem_cons h, show 80 - i = (80 - (i + 1)) + 1 from by omega, List.take_succ_cons, List.map_cons, List.append_assoc]
      rfl
    · have hnil : acc ++ ofL [] = acc := toL_inj (by rw [toL_append, toL_ofL, List.append_nil])
      rw [if_neg (by omega), List.drop_eq_nil_of_le (by omega), List.take_nil, List.map_nil, hnil]
theorem text_eq (k : Nat) (l : List Int) (hl : l.length ≤ maxLen) (hk : 80 < k) : plaitinglaw1_Text.f k l = some (ofL (textL l)) := by
  unfold plaitinglaw1_Text.f
  have := text_loop l hl 80 k 0 rfl (by omega) hk ⟨#[]⟩ (by simp [ByteArray.size])
  have h2 : plaitinglaw1_Text.l0 k l (⟨#[]⟩ : ByteArray) 0 = _ := this
  rw [h2]
  rfl
theorem textL_length (l : List Int) : (textL l).length ≤ 80 := by
  unfold textL
  rw [List.length_map, List.length_take]
  omega
end Go.Proofs.Ytcpohmfkmgcjkaa.P
