/- Plain lemmas on frames as texts: what frame.Read answers, as a function on lists of bytes; a made frame's text is read as it was. -/
import Derived.Test.YtcpohmfkmgcjkaaQFrameOtherSums
import Derived.Test.YtcpohmfkmgcjkaaQFrameOtherFrames
namespace Go.Proofs.Ytcpohmfkmgcjkaa.P
open Go.RowKit Go.Proofs.YtcpohmfkmgcjkaaW.PrintWords Go.Proofs.YtcpohmfkmgcjkaaW.PrintLast Go.Proofs.YtcpohmfkmgcjkaaW.PrintMore
attribute [local go_sem] max2_int min2_int max_two min_two max_three min_three max_four min_four
set_option linter.unusedVariables false
set_option linter.unusedSimpArgs false
theorem int_pow_le {m k : Nat} (h : m ≤ k) : (2 : Int) ^ m ≤ 2 ^ k := by
  have h1 : ((2 ^ m : Nat) : Int) = 2 ^ m := by push_cast; rfl
  have h2 : ((2 ^ k : Nat) : Int) = 2 ^ k := by push_cast; rfl
  have h3 : 2 ^ m ≤ 2 ^ k := Nat.pow_le_pow_right (by decide) h
  omega
theorem numStep_eq (n : Int) (c : UInt8) (hc : isBit c = true) (h0 : 0 ≤ n) (h1 : n < 2 ^ 61) : numStep n c = numS n c := by
  have hw : wrap64 (n * 2) = n * 2 := w64 (by omega) (by omega)
  unfold numStep numS
  rw [hw]
  have hy : ((c.toNat : Int) - 48) = if c = 49 then 1 else 0 := by
    rcases bit_cases hc with rfl | rfl <;> rfl
  rw [hy]
  have hb := bits_join .i64 63 (by decide) wraps_i64 1 (n * 2) (if c = 49 then 1 else 0) (by omega) (by omega) (by omega) (by split <;> decide) (by split <;> decide) (by split <;> decide)
  rw [hb]
  omega
theorem foldStep_eq : ∀ (l : List UInt8) (n : Int) (m : Nat), (∀ c ∈ l, isBit c = true) → 0 ≤ n → n < 2 ^ m → m + l.length ≤ 61 → l.foldl numStep n = l.foldl numS n
  | [], _, _, _, _, _, _ => rfl
  | c :: l, n, m, hb, h0, h1, h2 => by
    rw [List.length_cons] at h2
    have hp := int_pow_le (m := m) (k := 61) (by omega)
    have hs := numStep_eq n c (hb c (List.mem_cons_self ..)) h0 (by omega)
    have hB := numS_bounds n c
    rw [List.foldl_cons, List.foldl_cons, hs]
    exact foldStep_eq l (numS n c) (m + 1) (fun d hd => hb d (List.mem_cons_of_mem _ hd)) (by omega) (by rw [Int.pow_succ]; omega) (by omega)
theorem next_eq (l : List UInt8) (n : Nat) (hb : ∀ c ∈ l, isBit c = true) (hn : n ≤ l.length) (h60 : n ≤ 60) : frame_reader_next.f (ofL l) (n : Int) = some (numL (l.take n), ofL (l.drop n)) := by
  unfold frame_reader_next.f
  have hbt : ∀ c ∈ l.take n, isBit c = true := fun c hc => hb c (List.mem_of_mem_take hc)
  have hd : (ofL (l.take n)).data.toList = l.take n := rfl
  rw [Int.toNat_natCast, extract_ofL, toL_ofL, hd, if_pos, extract_ofL2, ofL_size, List.take_of_length_le (Nat.le_refl _)]
  · rw [foldStep_eq (l.take n) 0 0 hbt (by decide) (by decide) (by rw [List.length_take]; omega)]
    rfl
  · refine ⟨by omega, by rw [ofL_size]; omega, ?_⟩
    rw [List.all_eq_true]
    intro c hc
    exact decide_eq_true (isBit_lt (hbt c hc))
theorem item_eq (l : List UInt8) (hb : ∀ c ∈ l, isBit c = true) (hn : 10 ≤ l.length) : frame_reader_item.f (ofL l) = some (numL (l.take 2), numL ((l.drop 2).take 8), ofL (l.drop 10)) := by
  unfold frame_reader_item.f
  rw [show (2 : Int) = ((2 : Nat) : Int) from rfl, next_eq l 2 hb (by omega) (by decide), Option.bind_some, show (8 : Int) = ((8 : Nat) : Int) from rfl, next_eq (l.drop 2) 8 (fun c hc => hb c (List.mem_of_mem_drop hc)) (by rw [List.length_drop]; omega) (by decide), Option.bind_some, List.drop_drop]
def itemsL : Nat → List UInt8 → List S26
  | 0, _ => []
  | n + 1, l => ⟨numL (l.take 2), numL ((l.drop 2).take 8)⟩ :: itemsL n (l.drop 10)
theorem frame_Check_some (n pi e g f : Int) (ps : List Int) (K R S P V : Int) (l : List S26) : ∃ r, frame_Check.f n pi e g f ps K R S P V l = some r := by
  unfold frame_Check.f
  by_cases h1 : S < 0 ∨ wrap64 (n + (ps.length : Int)) ≤ S ∨ R < 0 ∨ 65535 < R
  · exact ⟨1, by rw [if_pos h1]⟩
  · rw [if_neg h1]
    by_cases h2 : K < 1 ∨ 3 < K ∨ (n ≤ S ∧ K ≠ 3)
    · exact ⟨6, by rw [if_pos h2]⟩
    · rw [if_neg h2]
      by_cases h3 : (if K = 3 then itemVal ⟨P, V⟩ else itemEmp ⟨P, V⟩) = false
      · exact ⟨1, by rw [if_pos h3]⟩
      · rw [if_neg h3]
        by_cases h4 : (l.length : Int) ≠ frame_echoesV n ps.length K S
        · exact ⟨2, by rw [if_pos h4]⟩
        · rw [if_neg h4]
          by_cases h5 : l.any (fun x => !itemEmp x && !itemVal x) = true
          · exact ⟨1, by rw [if_pos h5]⟩
          · exact ⟨0, by rw [if_neg h5]⟩
def checkV (n pi e g f : Int) (ps : List Int) (K R S P V : Int) (l : List S26) : Int := (frame_Check.f n pi e g f ps K R S P V l).getD 0
theorem checkV_eq (n pi e g f : Int) (ps : List Int) (K R S P V : Int) (l : List S26) : frame_Check.f n pi e g f ps K R S P V l = some (checkV n pi e g f ps K R S P V l) := by
  obtain ⟨r, hr⟩ := frame_Check_some n pi e g f ps K R S P V l
  unfold checkV
  rw [hr]
  rfl
abbrev ReadRes := Int × Int × Int × Int × Int × List S26 × Int
def readE (e : Int) : ReadRes := (0, 0, 0, 0, 0, [], e)
def readT (n pi e g f : Int) (ps : List Int) (K R S P V : Int) (l : List S26) : ReadRes := if checkV n pi e g f ps K R S P V l = 0 then (K, R, S, P, V, l, 0) else readE (checkV n pi e g f ps K R S P V l)
def readB (n pi e g f : Int) (ps : List Int) (b : List UInt8) : ReadRes :=
  if b.length < 34 then readE 3
  else if (b.length : Int) - 34 = 10 * frame_echoesV n ps.length (numL (b.take 2)) (numL ((b.drop 18).take 6)) then
    readT n pi e g f ps (numL (b.take 2)) (numL ((b.drop 2).take 16)) (numL ((b.drop 18).take 6)) (numL ((b.drop 24).take 2)) (numL ((b.drop 26).take 8)) (itemsL ((b.length - 34) / 10) (b.drop 34))
  else readE 2
def readL (n pi e g f : Int) (ps : List Int) (l : List UInt8) : ReadRes := if (openL l).2 = 0 then readB n pi e g f ps (openL l).1 else readE (openL l).2
theorem tail_eq (n pi e g f : Int) (ps : List Int) (K R S P V : Int) (l : List S26) (hl : l.length ≤ 1000000) : frame_Read.tail n pi e g f ps K R S P V l = some (readT n pi e g f ps K R S P V l) := by
  unfold frame_Read.tail readT
  rw [checkV_eq, Option.bind_some]
  by_cases h : checkV n pi e g f ps K R S P V l = 0
  · rw [if_pos h, if_pos h]
    show (if l.length * 16 ≤ 140737488355328 then some l else none).bind _ = _
    rw [if_pos (by omega)]
    rfl
  · rw [if_neg h, if_neg h]
    rfl
theorem l0_eq (n pi e g f : Int) (ps : List Int) (K R S P V : Int) : ∀ (m : Nat) (l : List UInt8) (acc : List S26) (k : Nat), (∀ c ∈ l, isBit c = true) → l.length = 10 * m → acc.length + m ≤ 1000000 → m < k →
    frame_Read.l0 n pi e g f ps K R S P V k (ofL l) acc = some (readT n pi e g f ps K R S P V (acc ++ itemsL m l))
  | 0, l, acc, k, hb, hl, ha, hk => by
    obtain ⟨k, rfl⟩ : ∃ q, k = q + 1 := ⟨k - 1, by omega⟩
    rw [frame_Read.l0, if_pos (by rw [ofL_size]; omega), itemsL, List.append_nil]
    exact tail_eq n pi e g f ps K R S P V acc (by omega)
  | m + 1, l, acc, k, hb, hl, ha, hk => by
    obtain ⟨k, rfl⟩ : ∃ q, k = q + 1 := ⟨k - 1, by omega⟩
    rw [frame_Read.l0, if_neg (by rw [ofL_size]; omega), item_eq l hb (by omega), Option.bind_some, if_pos (by omega)]
    have := l0_eq n pi e g f ps K R S P V m (l.drop 10) (acc ++ [⟨numL (l.take 2), numL ((l.drop 2).take 8)⟩]) k (fun c hc => hb c (List.mem_of_mem_drop hc)) (by rw [List.length_drop]; omega) (by rw [List.length_append, List.length_singleton]; omega) (by omega)
    rw [this, itemsL, List.append_assoc]
    rfl
theorem echoesV_bounds (n : Int) (np : Nat) (K S : Int) (h1 : 0 ≤ n) (h2 : n ≤ 1000) (h3 : np ≤ 1000) : 0 ≤ frame_echoesV n np K S ∧ frame_echoesV n np K S ≤ n + np := by
  unfold frame_echoesV
  split
  · rw [w64 (by omega) (by omega)]; omega
  · omega
theorem frame_Read_eq (n pi e g f : Int) (ps : List Int) (s : ByteArray) (h1 : 0 ≤ n) (h2 : n ≤ 1000) (h3 : ps.length ≤ 1000) (hs : s.size ≤ 1000000) : frame_Read.f n pi e g f ps s = some (readL n pi e g f ps (toL s)) := by
  unfold frame_Read.f readL
  rw [show (100 : Nat) = 30 + 70 from rfl, crc_Open_eq 30 s hs, Option.bind_some]
  have hbl := openL_bits (toL s)
  have hln := openL_length (toL s)
  rw [toL_length] at hln
  generalize openL (toL s) = o at *
  obtain ⟨b, e0⟩ := o
  dsimp only at hbl hln ⊢
  by_cases he : e0 = 0
  · rw [if_pos he, if_pos he, ofL_size]
    unfold readB
    by_cases hl : b.length < 34
    · rw [if_pos (by omega), if_pos hl]
      rfl
    · rw [if_neg (by omega), if_neg hl]
      rw [show (2 : Int) = ((2 : Nat) : Int) from rfl, next_eq b 2 hbl (by omega) (by decide), Option.bind_some, show (16 : Int) = ((16 : Nat) : Int) from rfl, next_eq (b.drop 2) 16 (fun c hc => hbl c (List.mem_of_mem_drop hc)) (by rw [List.length_drop]; omega) (by decide), Option.bind_some, List.drop_drop, show (6 : Int) = ((6 : Nat) : Int) from rfl, next_eq (b.drop (2 + 16)) 6 (fun c hc => hbl c (List.mem_of_mem_drop hc)) (by rw [List.length_drop]; omega) (by decide), Option.bind_some, List.drop_drop, item_eq (b.drop (2 + 16 + 6)) (fun c hc => hbl c (List.mem_of_mem_drop hc)) (by rw [List.length_drop]; omega), Option.bind_some, frame_echoes_eq, Option.bind_some, List.drop_drop, List.drop_drop, ofL_size, List.length_drop]
      have hE := echoesV_bounds n ps.length (numL (b.take 2)) (numL ((b.drop 18).take 6)) h1 h2 h3
      show (if ((b.length - 34 : Nat) : Int) = wrap64 (10 * frame_echoesV n ps.length (numL (b.take 2)) (numL ((b.drop 18).take 6))) then _ else _) = _
      rw [w64 (by omega) (by omega)]
      by_cases hq : (b.length : Int) - 34 = 10 * frame_echoesV n ps.length (numL (b.take 2)) (numL ((b.drop 18).take 6))
      · rw [if_pos (by omega), if_pos hq]
        exact l0_eq n pi e g f ps _ _ _ _ _ ((b.length - 34) / 10) (b.drop 34) [] (s.size + 1) (fun c hc => hbl c (List.mem_of_mem_drop hc)) (by rw [List.length_drop]; omega) (by simp; omega) (by omega)
      · rw [if_neg (by omega), if_neg hq]
        rfl
  · rw [if_neg he, if_neg he]
    rfl
theorem itemVal_cases {a b : Int} (h : itemVal ⟨a, b⟩ = true) : (a = 1 ∧ b = 0) ∨ (a = 2 ∧ 0 ≤ b ∧ b ≤ 255) := by
  unfold itemVal at h
  simp only [Bool.or_eq_true, Bool.and_eq_true, beq_iff_eq, decide_eq_true_eq] at h
  exact h
theorem made_bounds {n : Int} {np : Nat} {K R S P V : Int} {echo : List S26} (h : MadeFrame n np K R S P V echo) : 0 ≤ P ∧ P ≤ 2 ∧ 0 ≤ V ∧ V ≤ 255 := by
  by_cases h3 : K = 3
  · rcases itemVal_cases (h.pay h3) with h | h <;> omega
  · have := h.nopay h3
    omega
theorem frameBits_parts (K R S P V : Int) (l : List S26) :
    (frameBits K R S P V l).take 2 = bitsL K 2 ∧ ((frameBits K R S P V l).drop 2).take 16 = bitsL R 16 ∧ ((frameBits K R S P V l).drop 18).take 6 = bitsL S 6 ∧ ((frameBits K R S P V l).drop 24).take 2 = bitsL P 2 ∧ ((frameBits K R S P V l).drop 26).take 8 = bitsL V 8 ∧ (frameBits K R S P V l).drop 34 = l.flatMap frameItemL := by
  have e : frameBits K R S P V l = bitsL K 2 ++ (bitsL R 16 ++ (bitsL S 6 ++ (bitsL P 2 ++ (bitsL V 8 ++ l.flatMap frameItemL)))) := by
    unfold frameBits
    simp only [List.append_assoc]
  have d2 : (frameBits K R S P V l).drop 2 = bitsL R 16 ++ (bitsL S 6 ++ (bitsL P 2 ++ (bitsL V 8 ++ l.flatMap frameItemL))) := by rw [e, List.drop_left' (bitsL_length _ _)]
  have d18 : (frameBits K R S P V l).drop 18 = bitsL S 6 ++ (bitsL P 2 ++ (bitsL V 8 ++ l.flatMap frameItemL)) := by rw [show 18 = 2 + 16 from rfl, ← List.drop_drop, d2, List.drop_left' (bitsL_length _ _)]
  have d24 : (frameBits K R S P V l).drop 24 = bitsL P 2 ++ (bitsL V 8 ++ l.flatMap frameItemL) := by rw [show 24 = 18 + 6 from rfl, ← List.drop_drop, d18, List.drop_left' (bitsL_length _ _)]
  have d26 : (frameBits K R S P V l).drop 26 = bitsL V 8 ++ l.flatMap frameItemL := by rw [show 26 = 24 + 2 from rfl, ← List.drop_drop, d24, List.drop_left' (bitsL_length _ _)]
  refine ⟨?_, ?_, ?_, ?_, ?_, ?_⟩
  · rw [e, List.take_left' (bitsL_length _ _)]
  · rw [d2, List.take_left' (bitsL_length _ _)]
  · rw [d18, List.take_left' (bitsL_length _ _)]
  · rw [d24, List.take_left' (bitsL_length _ _)]
  · rw [d26, List.take_left' (bitsL_length _ _)]
  · rw [show 34 = 26 + 8 from rfl, ← List.drop_drop, d26, List.drop_left' (bitsL_length _ _)]
theorem made_nums {n : Int} {np : Nat} {K R S P V : Int} {echo : List S26} (h : MadeFrame n np K R S P V echo) (h2 : n + np ≤ 63) : numL (bitsL K 2) = K ∧ numL (bitsL R 16) = R ∧ numL (bitsL S 6) = S ∧ numL (bitsL P 2) = P ∧ numL (bitsL V 8) = V := by
  have hb := made_bounds h
  have a1 := h.k1
  have a2 := h.k2
  have a3 := h.r1
  have a4 := h.r2
  have a5 := h.s1
  have a6 := h.s2
  exact ⟨numL_bitsL K 2 (by omega) (by omega) (by decide), numL_bitsL R 16 (by omega) (by omega) (by decide), numL_bitsL S 6 (by omega) (by omega) (by decide), numL_bitsL P 2 (by omega) (by omega) (by decide), numL_bitsL V 8 (by omega) (by omega) (by decide)⟩
end Go.Proofs.Ytcpohmfkmgcjkaa.P
