/- Plain lemmas on texts of symbols: Clean, Common, Front, Text of the references, as functions on lists of bytes. -/
import Derived.Test.YtdkbalaphblobaaMath
import Derived.Test.YtdkbalaphblobaaPx21
import Derived.Test.YtdkbalaphblobaaPx20
namespace Go.Proofs.Ytdkbalaphblobaa.P
open Go.RowKit Go.Proofs.YtdkbalaphblobaaW.PrintWords Go.Proofs.YtdkbalaphblobaaW.PrintLast Go.Proofs.YtdkbalaphblobaaW.PrintMore
attribute [local go_sem] max2_int min2_int max_two min_two max_three min_three max_four min_four
set_option linter.unusedVariables false
set_option linter.unusedSimpArgs false
def toL (s : ByteArray) : List UInt8 := s.data.toList
def ofL (l : List UInt8) : ByteArray := ⟨l.toArray⟩
theorem ofL_toL (s : ByteArray) : ofL (toL s) = s := rfl
theorem toL_ofL (l : List UInt8) : toL (ofL l) = l := rfl
theorem toL_inj {a b : ByteArray} (h : toL a = toL b) : a = b := by rw [← ofL_toL a, ← ofL_toL b, h]
theorem toL_length (s : ByteArray) : (toL s).length = s.size := by
  unfold toL
  rw [Array.length_toList]
  rfl
theorem ofL_size (l : List UInt8) : (ofL l).size = l.length := by rw [← toL_length]; rfl
theorem toL_append (a b : ByteArray) : toL (a ++ b) = toL a ++ toL b := by simp [toL, ByteArray.data_append]
theorem toL_extract (s : ByteArray) (n : Nat) : toL (s.extract 0 n) = (toL s).take n := by simp [toL, ByteArray.data_extract]
theorem extract_ofL (s : ByteArray) (n : Nat) : s.extract 0 n = ofL ((toL s).take n) := toL_inj (by rw [toL_extract, toL_ofL])
theorem bt_eq (s : ByteArray) (i : Nat) (h : i < s.size) : bt s (i : Int) = (((toL s)[i]'(by rw [toL_length]; exact h)).toNat : Int) := by
  unfold bt toL
  simp only [Int.toNat_natCast]
  rw [dif_pos h]
  rfl
theorem u8_eq (c : UInt8) (n : Nat) (hn : n < 256) : ((c.toNat : Int) = (n : Int)) ↔ c = UInt8.ofNat n := by
  constructor
  · intro h
    apply UInt8.toNat_inj.1
    rw [UInt8.toNat_ofNat']
    omega
  · rintro rfl
    rw [UInt8.toNat_ofNat']
    omega
theorem u8_48 (c : UInt8) : ((c.toNat : Int) = 48) ↔ c = 48 := u8_eq c 48 (by decide)
theorem u8_49 (c : UInt8) : ((c.toNat : Int) = 49) ↔ c = 49 := u8_eq c 49 (by decide)
theorem u8_35 (c : UInt8) : ((c.toNat : Int) = 35) ↔ c = 35 := u8_eq c 35 (by decide)
def isBit (c : UInt8) : Bool := c == 48 || c == 49
def cleanL : List UInt8 → List UInt8
  | [] => []
  | c :: t => if isBit c = true then c :: cleanL t else if c = 35 then [c] else []
def commonL : List UInt8 → List UInt8 → List UInt8
  | c :: t, d :: u => if c = d then c :: commonL t u else []
  | _, _ => []
theorem symbol_eq (c : UInt8) : plaitingref1_symbol.f (c.toNat : Int) = some (isBit c || c == 35) := by
  unfold plaitingref1_symbol.f isBit
  have a := u8_48 c
  have b := u8_49 c
  have d := u8_35 c
  by_cases h1 : c = 48
  · subst h1; rfl
  · by_cases h2 : c = 49
    · subst h2; rfl
    · rw [if_neg (fun h => h1 (a.1 h)), if_neg (fun h => h2 (b.1 h)), beq_eq_false_iff_ne.mpr h1, beq_eq_false_iff_ne.mpr h2]
      by_cases h3 : c = 35
      · subst h3; rfl
      · rw [beq_eq_false_iff_ne.mpr h3, beq_eq_false_iff_ne.mpr (fun h => h3 (d.1 h))]
        rfl
theorem clean_loop (s : ByteArray) (hs : s.size ≤ 140737488351232) : ∀ d (k i : Nat), s.size - i = d → i ≤ s.size → d < k → plaitingref1_Clean.l0 k s (i : Int) = some (ofL ((toL s).take i ++ cleanL ((toL s).drop i))) := by
  intro d
  induction d with
  | zero =>
    intro k i h1 h0 h2
    obtain ⟨k, rfl⟩ : ∃ m, k = m + 1 := ⟨k - 1, by omega⟩
    have hi : i = (toL s).length := by rw [toL_length]; omega
    rw [plaitingref1_Clean.l0, if_neg (by omega), hi, List.drop_length, List.take_length]
    simp [cleanL, ofL_toL]
  | succ d ih =>
    intro k i h1 h0 h2
    obtain ⟨k, rfl⟩ : ∃ m, k = m + 1 := ⟨k - 1, by omega⟩
    have hi : i < s.size := by omega
    have hl : i < (toL s).length := by rw [toL_length]; exact hi
    have hw : wrap64 ((i : Int) + 1) = ((i + 1 : Nat) : Int) := by rw [w64 (by omega) (by omega)]; rfl
    rw [plaitingref1_Clean.l0, if_pos (by omega), if_pos (by omega), bt_eq s i hi, symbol_eq, Option.bind_some, hw, List.drop_eq_getElem_cons hl, cleanL]
    have hc := u8_35 (toL s)[i]
    generalize hcc : (toL s)[i] = c at *
    have htk : (toL s).take (i + 1) = (toL s).take i ++ [c] := by rw [List.take_succ_eq_append_getElem hl, hcc]
    by_cases hb : isBit c = true
    · have hn : ¬ c = 35 := by rintro rfl; exact absurd hb (by decide)
      rw [if_pos (by rw [hb]; rfl), if_neg (fun h => hn (hc.1 h)), ih k (i + 1) (by omega) (by omega) (by omega), if_pos hb, htk, List.append_assoc]
      rfl
    · rw [if_neg hb]
      rw [Bool.not_eq_true] at hb
      by_cases h35 : c = 35
      · rw [if_pos (by rw [hb, h35]; rfl), if_pos (hc.2 h35), if_pos (by omega), if_pos (by omega), if_pos h35, Int.toNat_natCast, extract_ofL, htk]
      · rw [if_neg (by rw [hb, beq_eq_false_iff_ne.mpr h35]; decide), if_pos (by omega), if_neg h35, Int.toNat_natCast, extract_ofL, List.append_nil]
theorem clean_eq (k : Nat) (s : ByteArray) (hs : s.size ≤ 140737488351232) (hk : s.size < k) : plaitingref1_Clean.f k s = some (ofL (cleanL (toL s))) := by
  unfold plaitingref1_Clean.f
  have := clean_loop s hs _ k 0 rfl (by omega) (by omega)
  simpa using this
theorem common_loop (a b : ByteArray) (ha : a.size ≤ 140737488351232) : ∀ d (k i : Nat), a.size - i = d → i ≤ a.size → d < k → plaitingref1_Common.l0 k a b (i : Int) = some (ofL ((toL a).take i ++ commonL ((toL a).drop i) ((toL b).drop i))) := by
  intro d
  induction d with
  | zero =>
    intro k i h1 h0 h2
    obtain ⟨k, rfl⟩ : ∃ m, k = m + 1 := ⟨k - 1, by omega⟩
    have hi : i = (toL a).length := by rw [toL_length]; omega
    rw [plaitingref1_Common.l0, if_neg (by omega), if_pos (by omega), if_pos (by omega), Int.toNat_natCast, extract_ofL, hi, List.drop_length, List.take_length]
    simp [commonL]
  | succ d ih =>
    intro k i h1 h0 h2
    obtain ⟨k, rfl⟩ : ∃ m, k = m + 1 := ⟨k - 1, by omega⟩
    have hi : i < a.size := by omega
    have hl : i < (toL a).length := by rw [toL_length]; exact hi
    have hw : wrap64 ((i : Int) + 1) = ((i + 1 : Nat) : Int) := by rw [w64 (by omega) (by omega)]; rfl
    rw [plaitingref1_Common.l0, if_pos (by omega), hw, List.drop_eq_getElem_cons hl]
    by_cases hj : i < b.size
    · have hm : i < (toL b).length := by rw [toL_length]; exact hj
      rw [if_pos (by omega), if_pos (by omega), bt_eq a i hi, bt_eq b i hj, List.drop_eq_getElem_cons hm, commonL]
      have htk : (toL a).take (i + 1) = (toL a).take i ++ [(toL a)[i]] := List.take_succ_eq_append_getElem hl
      by_cases e : (toL a)[i] = (toL b)[i]
      · rw [if_pos (by rw [e]), if_pos e, ih k (i + 1) (by omega) (by omega) (by omega), htk, List.append_assoc]
        rfl
      · rw [if_neg (fun h => e (UInt8.toNat_inj.1 (by omega))), if_neg e, if_pos (by omega), Int.toNat_natCast, extract_ofL, List.append_nil]
    · rw [if_neg (by omega), if_pos (by omega), if_pos (by omega), Int.toNat_natCast, extract_ofL, show (toL b).drop i = [] from List.drop_eq_nil_of_le (by rw [toL_length]; omega)]
      simp [commonL]
theorem common_eq (k : Nat) (a b : ByteArray) (ha : a.size ≤ 140737488351232) (hk : a.size < k) : plaitingref1_Common.f k a b = some (ofL (commonL (toL a) (toL b))) := by
  unfold plaitingref1_Common.f
  have := common_loop a b ha _ k 0 rfl (by omega) (by omega)
  simpa using this
theorem front_true (a b : ByteArray) (h : toL a <+: toL b) : plaitingref1_Front.f a b = some true := by
  unfold plaitingref1_Front.f
  have hl := h.length_le
  rw [toL_length, toL_length] at hl
  rw [if_pos (by omega), if_pos (by omega)]
  have e : b.extract 0 (((a.size : Int) : Int)).toNat = a := by
    rw [extract_ofL, Int.toNat_natCast, ← toL_length, ← List.prefix_iff_eq_take.1 h, ofL_toL]
  rw [e]
  simp
theorem l1_within (a n : Int) (hn : 0 < n) (hb : n ≤ 1000000000000) : plaitinglaw1_within.f a n = some (a % n) := within_gen a n hn hb
def textSyms : List ByteArray := [⟨#[48]⟩, ⟨#[49]⟩, ⟨#[48]⟩, ⟨#[49]⟩, ⟨#[48]⟩, ⟨#[49]⟩, ⟨#[48]⟩, ⟨#[49]⟩, ⟨#[35]⟩, ⟨#[46]⟩, ⟨#[120]⟩]
def textL (l : List Int) : List UInt8 := (l.take 80).map (fun x => (toL (textSyms.getD (x % 11).toNat ByteArray.empty)).headD 0)
theorem textSyms_one (n : Nat) (h : n < 11) : toL (textSyms.getD n ByteArray.empty) = [(toL (textSyms.getD n ByteArray.empty)).headD 0] := by
  match n, h with
  | 0, _ | 1, _ | 2, _ | 3, _ | 4, _ | 5, _ | 6, _ | 7, _ | 8, _ | 9, _ | 10, _ => rfl
  | n + 11, h => omega
theorem text_loop (l : List Int) (hl : l.length ≤ maxLen) : ∀ d (k i : Nat), 80 - i = d → i ≤ 80 → d < k → ∀ acc : ByteArray, acc.size ≤ i → plaitinglaw1_Text.l0 k l acc (i : Int) = some (acc ++ ofL (((l.drop i).take (80 - i)).map (fun x => (toL (textSyms.getD (x % 11).toNat ByteArray.empty)).headD 0))) := by
  intro d
  induction d with
  | zero =>
    intro k i h1 h0 h2 acc ha
    obtain ⟨k, rfl⟩ : ∃ m, k = m + 1 := ⟨k - 1, by omega⟩
    have hnil : acc ++ ofL [] = acc := toL_inj (by rw [toL_append, toL_ofL, List.append_nil])
    rw [plaitinglaw1_Text.l0, show 80 - i = 0 from h1, List.take_zero, List.map_nil, hnil]
    by_cases h : (i : Int) < (l.length : Int)
    · rw [if_pos h, if_neg (by omega)]
    · rw [if_neg h]
  | succ d ih =>
    intro k i h1 h0 h2 acc ha
    obtain ⟨k, rfl⟩ : ∃ m, k = m + 1 := ⟨k - 1, by omega⟩
    have hw : wrap64 ((i : Int) + 1) = ((i + 1 : Nat) : Int) := by rw [w64 (by omega) (by omega)]; rfl
    rw [plaitinglaw1_Text.l0]
    by_cases h : i < l.length
    · have hr : rd l (i : Int) = l[i] := by
        unfold rd
        rw [Int.toNat_natCast, List.getD_eq_getElem?_getD, List.getElem?_eq_getElem h]
        rfl
      have hb := mod_bounds l[i] 11 (by decide)
      have hone := textSyms_one (l[i] % 11).toNat (by omega)
      rw [if_pos (by omega), if_pos (by omega), Option.bind_some, if_pos (by omega), hr, l1_within _ 11 (by decide) (by decide), Option.bind_some, if_pos hb.1, if_pos (by simpa using hb.2), hw]
      have hrd : rdOf ByteArray.empty textSyms (l[i] % 11) = textSyms.getD (l[i] % 11).toNat ByteArray.empty := rfl
      have hrd' : rdOf ByteArray.empty [(⟨#[48]⟩ : ByteArray), (⟨#[49]⟩ : ByteArray), (⟨#[48]⟩ : ByteArray), (⟨#[49]⟩ : ByteArray), (⟨#[48]⟩ : ByteArray), (⟨#[49]⟩ : ByteArray), (⟨#[48]⟩ : ByteArray), (⟨#[49]⟩ : ByteArray), (⟨#[35]⟩ : ByteArray), (⟨#[46]⟩ : ByteArray), (⟨#[120]⟩ : ByteArray)] (l[i] % 11) = textSyms.getD (l[i] % 11).toNat ByteArray.empty := hrd
      rw [hrd']
      have hsz : (textSyms.getD (l[i] % 11).toNat ByteArray.empty).size = 1 := by rw [← toL_length, hone]; rfl
      rw [if_pos (by omega), ih k (i + 1) (by omega) (by omega) (by omega) _ (by rw [ByteArray.size_append]; omega)]
      congr 1
      apply toL_inj
      rw [toL_append, toL_append, toL_append, toL_ofL, toL_ofL, hone, List.drop_eq_getElem_cons h, show 80 - i = (80 - (i + 1)) + 1 from by omega, List.take_succ_cons, List.map_cons, List.append_assoc]
      rfl
    · have hnil : acc ++ ofL [] = acc := toL_inj (by rw [toL_append, toL_ofL, List.append_nil])
      rw [if_neg (by omega), List.drop_eq_nil_of_le (by omega), List.take_nil, List.map_nil, hnil]
theorem text_eq (k : Nat) (l : List Int) (hl : l.length ≤ maxLen) (hk : 80 < k) : plaitinglaw1_Text.f k l = some (ofL (textL l)) := by
  unfold plaitinglaw1_Text.f
  have := text_loop l hl 80 k 0 rfl (by omega) hk ⟨#[]⟩ (by simp [ByteArray.size])
  have h2 : plaitinglaw1_Text.l0 k l (⟨#[]⟩ : ByteArray) 0 = _ := this
  rw [h2]
  rfl
theorem textL_length (l : List Int) : (textL l).length ≤ 80 := by
  unfold textL
  rw [List.length_map, List.length_take]
  omega
/-! fronts -/
theorem cleanL_prefix : ∀ l : List UInt8, cleanL l <+: l
  | [] => List.prefix_refl _
  | c :: t => by
    unfold cleanL
    split
    · exact List.prefix_cons_inj c |>.2 (cleanL_prefix t)
    · split
      · exact ⟨t, rfl⟩
      · exact List.nil_prefix
theorem cleanL_idem : ∀ l : List UInt8, cleanL (cleanL l) = cleanL l
  | [] => rfl
  | c :: t => by
    rw [cleanL]
    by_cases h : isBit c = true
    · rw [if_pos h, cleanL, if_pos h, cleanL_idem t]
    · rw [if_neg h]
      by_cases h2 : c = 35
      · rw [if_pos h2, cleanL, if_neg h, if_pos h2]
      · rw [if_neg h2]; rfl
theorem commonL_left : ∀ a b : List UInt8, commonL a b <+: a
  | [], _ => by unfold commonL; exact List.prefix_refl _
  | _ :: _, [] => by unfold commonL; exact List.nil_prefix
  | c :: t, d :: u => by
    rw [commonL]
    split
    · exact List.prefix_cons_inj c |>.2 (commonL_left t u)
    · exact List.nil_prefix
theorem commonL_comm : ∀ a b : List UInt8, commonL a b = commonL b a
  | [], [] => rfl
  | [], _ :: _ => by simp [commonL]
  | _ :: _, [] => by simp [commonL]
  | c :: t, d :: u => by
    rw [commonL, commonL]
    by_cases h : c = d
    · rw [if_pos h, if_pos h.symm, commonL_comm t u, h]
    · rw [if_neg h, if_neg (fun e => h e.symm)]
theorem commonL_self : ∀ a : List UInt8, commonL a a = a
  | [] => by simp [commonL]
  | c :: t => by rw [commonL, if_pos rfl, commonL_self t]
theorem commonL_assoc : ∀ a b c : List UInt8, commonL (commonL a b) c = commonL a (commonL b c)
  | [], b, c => by simp [commonL]
  | _ :: _, [], c => by simp [commonL]
  | _ :: _, _ :: _, [] => by rw [commonL_comm (commonL _ _) []]; simp [commonL]
  | x :: a, y :: b, z :: c => by
    simp only [commonL]
    by_cases h1 : x = y
    · subst h1
      by_cases h2 : x = z
      · subst h2
        simp only [if_true, commonL, commonL_assoc a b c]
      · simp only [if_true, if_neg h2, commonL]
    · by_cases h2 : y = z
      · subst h2
        simp only [if_true, if_neg h1, commonL]
      · simp only [if_neg h1, if_neg h2, commonL]
theorem cleanL_front : ∀ a b : List UInt8, a <+: cleanL b → cleanL a = a
  | [], _, _ => rfl
  | x :: a, [], h => by simp [cleanL] at h
  | x :: a, c :: t, h => by
    rw [cleanL] at h
    split at h
    · rename_i hb
      obtain ⟨h1, h2⟩ := List.cons_prefix_cons.1 h
      subst h1
      rw [cleanL, if_pos hb, cleanL_front a t h2]
    · rename_i hb
      split at h
      · rename_i h35
        obtain ⟨h1, h2⟩ := List.cons_prefix_cons.1 h
        subst h1
        have : a = [] := List.prefix_nil.1 h2
        subst this
        rw [cleanL, if_neg hb, if_pos h35]
      · exact absurd h (by simp)
theorem cleanL_common (a b : List UInt8) : cleanL (commonL (cleanL a) (cleanL b)) = commonL (cleanL a) (cleanL b) := cleanL_front _ a (commonL_left _ _)
theorem commonL_of_prefix : ∀ a b : List UInt8, a <+: b → commonL a b = a
  | [], _, _ => by simp [commonL]
  | x :: a, [], h => absurd h (by simp)
  | x :: a, y :: b, h => by
    obtain ⟨h1, h2⟩ := List.cons_prefix_cons.1 h
    rw [commonL, if_pos h1, commonL_of_prefix a b h2]

end Go.Proofs.Ytdkbalaphblobaa.P
