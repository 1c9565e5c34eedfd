/- Plain lemmas on the document's own reading of frames: it answers as frame.Read does. -/
import Derived.Test.YtcpohmfkmgcjkaaQArbRightRefs
import Derived.Test.YtcpohmfkmgcjkaaQArbRightSyms
import Derived.Test.YtcpohmfkmgcjkaaQArbRightPx22
namespace Go.Proofs.Ytcpohmfkmgcjkaa.P
open Go.RowKit Go.Proofs.YtcpohmfkmgcjkaaW.PrintWords Go.Proofs.YtcpohmfkmgcjkaaW.PrintLast Go.Proofs.YtcpohmfkmgcjkaaW.PrintMore
attribute [local go_sem] max2_int min2_int max_two min_two max_three min_three max_four min_four
set_option linter.unusedVariables false
set_option linter.unusedSimpArgs false
theorem r1_Whole_eq (s : ByteArray) (h : s.size ≤ 1000000) (k : Nat) (hk : s.size < k) : plaitingref1_Whole.f k s = some (wholeL (toL s)) := by
  unfold plaitingref1_Whole.f wholeL
  have hsz : (toL s).length = s.size := toL_length s
  rw [toL_of, clean_eq k s (by omega) hk, Option.bind_some, toL_of, toL_ofL]
  by_cases h0 : toL s = []
  · rw [if_pos h0, h0]; rfl
  · rw [if_neg h0]
    have hpos : 0 < (toL s).length := List.length_pos_iff.2 h0
    by_cases hc : cleanL (toL s) = toL s
    · have w1 : wrap64 ((s.size : Int) - 1) = ((s.size - 1 : Nat) : Int) := by rw [w64 (by omega) (by omega)]; omega
      have hx : s.size - 1 < (toL s).length := by omega
      have hlast : (toL s).getLast? = some ((toL s)[s.size - 1]'hx) := by
        rw [List.getLast?_eq_getElem?, hsz, List.getElem?_eq_getElem hx]
      rw [if_pos hc, w1, if_pos (by omega), if_pos (by omega), bt_eq s (s.size - 1) (by omega), hlast, hc]
      refine congrArg some ?_
      have e := u8_35 ((toL s)[s.size - 1]'hx)
      by_cases hq : (toL s)[s.size - 1]'hx = 35
      · rw [beq_iff_eq.2 (e.2 hq), hq]; simp
      · rw [beq_eq_false_iff_ne.2 (fun h_ => hq (e.1 h_)), beq_eq_false_iff_ne.2 (fun h_ => hq (Option.some.inj h_))]; rfl
    · rw [if_neg hc, beq_eq_false_iff_ne.2 hc, Bool.and_false]
theorem r2_Open_eq (k : Nat) (s : ByteArray) (h : s.size ≤ 1000000) (hk : s.size < k + 70) : plaitingref2_Open.f (k + 70) s = some (ofL (openL (toL s)).1, (openL (toL s)).2) := by
  unfold plaitingref2_Open.f openL
  rw [r1_Whole_eq s h (k + 70) hk, Option.bind_some]
  have hsz : (toL s).length = s.size := toL_length s
  by_cases hw : wholeL (toL s) = true
  · rw [if_pos hw, if_pos hw]
    obtain ⟨b, hl, hb⟩ := (wholeL_iff _).1 hw
    have w1 : wrap64 ((s.size : Int) - 1) = (s.size : Int) - 1 := w64 (by omega) (by omega)
    have w2 : wrap64 ((s.size : Int) - 1 - 16) = (s.size : Int) - 17 := by rw [w64 (by omega) (by omega)]; omega
    rw [w1, w2]
    by_cases hs : s.size < 17
    · rw [if_pos (by omega), if_pos (by omega)]
      rfl
    · rw [if_neg (show ¬ (toL s).length < 17 by omega), if_neg (by omega), if_pos (by omega), if_pos (by omega), if_pos (by omega), if_pos (by omega)]
      have n1 : ((s.size : Int) - 17).toNat = (toL s).length - 17 := by omega
      have n2 : ((s.size : Int) - 1).toNat = (toL s).length - 1 := by omega
      rw [n1, n2, extract_ofL, r2_Sum_eq (k + 70) _ (by rw [List.length_take]; omega) (take_bits hl hb _ (by omega)) (by rw [List.length_take]; omega), Option.bind_some, show (16 : Int) = ((16 : Nat) : Int) from rfl, r1_Bits_eq k _ 16 (by decide) (by decide), Option.bind_some, toL_of, toL_of, toL_ofL, toL_extract2]
      have e1 : ((toL s).take ((toL s).length - 1)).drop ((toL s).length - 17) = ((toL s).drop ((toL s).length - 17)).take 16 := by
        rw [List.drop_take]
        congr 1
        omega
      rw [e1]
      by_cases hq : bitsL (crcL ((toL s).take ((toL s).length - 17))) 16 = ((toL s).drop ((toL s).length - 17)).take 16
      · rw [if_pos hq, if_pos hq.symm]
      · rw [if_neg hq, if_neg (fun h_ => hq h_.symm)]
        rfl
  · rw [if_neg hw, if_neg hw]
    rfl
theorem r1_num_loop (l : List UInt8) (hl : l.length ≤ 60) (hb : ∀ c ∈ l, isBit c = true) : ∀ (d k i : Nat) (n : Int), l.length - i = d → i ≤ l.length → 2 * d < k → 0 ≤ n → n < 2 ^ i →
    plaitingref1_Num.l0 k (ofL l) n (i : Int) = some ((l.drop i).foldl numS n, true) := by
  intro d
  induction d with
  | zero =>
    intro k i n h1 h2 h3 h4 h5
    obtain ⟨k, rfl⟩ : ∃ q, k = q + 1 := ⟨k - 1, by omega⟩
    rw [plaitingref1_Num.l0, ofL_size, if_neg (by omega), List.drop_of_length_le (by omega)]
    rfl
  | succ d ih =>
    intro k i n h1 h2 h3 h4 h5
    obtain ⟨k, rfl⟩ : ∃ q, k = q + 2 := ⟨k - 2, by omega⟩
    have hi : i < l.length := by omega
    have w1 : wrap64 ((i : Int) + 1) = ((i + 1 : Nat) : Int) := by rw [w64 (by omega) (by omega)]; omega
    have hp := int_pow_le (m := i) (k := 60) (by omega)
    have hB := numS_bounds n l[i]
    have hI := ih k (i + 1) (numS n l[i]) (by omega) (by omega) (by omega) (by omega) (by rw [Int.pow_succ]; omega)
    have hbt : bt (ofL l) (i : Int) = ((l[i].toNat : Nat) : Int) := bt_eq (ofL l) i (by rw [ofL_size]; exact hi)
    have w2 : wrap64 (2 * n) = 2 * n := w64 (by omega) (by omega)
    rw [show k + 2 = (k + 1) + 1 from rfl, plaitingref1_Num.l0, ofL_size, if_pos (by omega), if_pos (by omega), hbt, List.drop_eq_getElem_cons hi, List.foldl_cons]
    have hj : ∀ x, plaitingref1_Num.j2 (k + 1) (ofL l) n (i : Int) x = if x = true then some (0, false) else (if (((l[i].toNat : Nat) : Int)) = 49 then plaitingref1_Num.l0 k (ofL l) (wrap64 (2 * n + 1)) ((i + 1 : Nat) : Int) else plaitingref1_Num.l0 k (ofL l) (2 * n) ((i + 1 : Nat) : Int)) := by
      intro x
      rw [plaitingref1_Num.j2, ofL_size, if_pos (show (0 : Int) ≤ (i : Int) by omega), if_pos (show (i : Int) < (l.length : Int) by omega), hbt, w1, w2]
    rcases bit_cases (hb _ (List.getElem_mem hi)) with h | h
    · have e : numS n l[i] = 2 * n := by unfold numS; rw [h, if_neg (by decide)]; omega
      rw [if_pos (by rw [h]; rfl), hj, if_neg (by decide), if_neg (by rw [h]; decide), ← e]
      exact hI
    · have e : numS n l[i] = 2 * n + 1 := by unfold numS; rw [h, if_pos rfl]
      rw [if_neg (by rw [h]; decide), hj, if_neg (by rw [h]; decide), if_pos (by rw [h]; rfl), w64 (by omega) (by omega), ← e]
      exact hI
theorem r5_number_eq (k : Nat) (l : List UInt8) (h1 : 1 ≤ l.length) (hl : l.length ≤ 60) (hb : ∀ c ∈ l, isBit c = true) (hk : 130 < k) : plaitingref5_number.f k (ofL l) = some (numL l) := by
  obtain ⟨k, rfl⟩ : ∃ q, k = q + 1 := ⟨k - 1, by omega⟩
  unfold plaitingref5_number.f plaitingref1_Num.f
  rw [ofL_size, if_neg (by omega), decide_eq_false (by omega), plaitingref1_Num.j0, if_neg (by decide), show (0 : Int) = ((0 : Nat) : Int) from rfl]
  have := r1_num_loop l hl hb l.length k 0 0 (by omega) (by omega) (by omega) (by decide) (by decide)
  rw [show ((0 : Nat) : Int) = 0 from rfl] at this ⊢
  rw [this]
  rfl
theorem r5_read_eq (k : Nat) (l : List UInt8) (h1 : 10 ≤ l.length) (hb : ∀ c ∈ l, isBit c = true) (hk : 130 < k) : plaitingref5_read.f k (ofL l) = some (numL (l.take 2), numL ((l.drop 2).take 8)) := by
  unfold plaitingref5_read.f
  rw [if_pos (by decide), ofL_size, if_pos (by omega), extract_ofL, toL_ofL, r5_number_eq k _ (by rw [List.length_take]; omega) (by rw [List.length_take]; omega) (fun c hc => hb c (List.mem_of_mem_take hc)) hk, Option.bind_some, if_pos (by decide), if_pos (by omega), extract_ofL2]
  have e : (l.take 10).drop 2 = (l.drop 2).take 8 := by rw [List.drop_take]
  rw [e, r5_number_eq k _ (by rw [List.length_take, List.length_drop]; omega) (by rw [List.length_take]; omega) (fun c hc => hb c (List.mem_of_mem_drop (List.mem_of_mem_take hc))) hk, Option.bind_some]
theorem r5_item_eq (x : S26) (c : Bool) : plaitingref5_item.f x.f0 x.f1 c = some (if c = true then itemVal x else itemOk x) := by
  obtain ⟨a, b⟩ := x
  unfold plaitingref5_item.f itemOk itemEmp itemVal
  dsimp only
  by_cases h0 : a = 0
  · subst h0
    rw [if_pos rfl]
    by_cases hb : b = 0
    · subst hb; cases c <;> rfl
    · rw [if_neg hb, beq_eq_false_iff_ne.2 hb]; cases c <;> rfl
  · rw [if_neg h0]
    by_cases h1 : a = 1
    · subst h1; rw [if_pos rfl]; cases c <;> cases b == 0 <;> rfl
    · rw [if_neg h1]
      have e0 : (a == 0) = false := beq_eq_false_iff_ne.2 h0
      have e1 : (a == 1) = false := beq_eq_false_iff_ne.2 h1
      rw [e0, e1]
      by_cases h2 : a = 2
      · subst h2
        rw [if_pos rfl]
        by_cases hb : b ≥ 0
        · rw [if_pos hb, decide_eq_true (show 0 ≤ b from hb)]; cases c <;> simp
        · rw [if_neg hb, decide_eq_false (show ¬ 0 ≤ b from hb)]; cases c <;> rfl
      · rw [if_neg h2, beq_eq_false_iff_ne.2 h2]; cases c <;> rfl
theorem r5_check_loop (K R S P V : Int) (l : List S26) (hl : l.length ≤ 1000000) : ∀ d (k i : Nat), l.length - i = d → i ≤ l.length → d < k →
    plaitingref5_Check.l0 k (i : Int) K R S P V l = some (if (l.drop i).any (fun x => !itemEmp x && !itemVal x) = true then 1 else 0) := by
  intro d
  induction d with
  | zero =>
    intro k i h1 h2 h3
    obtain ⟨k, rfl⟩ : ∃ q, k = q + 1 := ⟨k - 1, by omega⟩
    rw [plaitingref5_Check.l0, if_neg (by omega), List.drop_of_length_le (by omega)]
    rfl
  | succ d ih =>
    intro k i h1 h2 h3
    obtain ⟨k, rfl⟩ : ∃ q, k = q + 1 := ⟨k - 1, by omega⟩
    have hi : i < l.length := by omega
    have w1 : wrap64 ((i : Int) + 1) = ((i + 1 : Nat) : Int) := by rw [w64 (by omega) (by omega)]; omega
    have e : (!itemEmp l[i] && !itemVal l[i]) = !itemOk l[i] := by unfold itemOk; rw [Bool.not_or]
    rw [plaitingref5_Check.l0, if_pos (by omega), if_pos (by omega), rd26 l i hi, r5_item_eq, if_neg (by decide), Option.bind_some, w1, ih k (i + 1) (by omega) (by omega) (by omega), List.drop_eq_getElem_cons hi, List.any_cons, e]
    cases itemOk l[i] <;> simp
theorem r5_echoes_eq (n pi e g f : Int) (ps : List Int) (K S : Int) (h0 : 0 ≤ n) (h1 : n ≤ 1000) (h2 : ps.length ≤ 1000) : plaitingref5_echoes.f n pi e g f ps K S = some (frame_echoesV n ps.length K S) := by
  unfold plaitingref5_echoes.f frame_echoesV
  rw [r3_Slots_eq n pi e g f ps h0 h1 h2, Option.bind_some]
  by_cases hK : K = 3
  · rw [if_pos hK]
    by_cases hS : S < n
    · rw [if_pos hS, if_pos ⟨hK, hS⟩, w64 (by omega) (by omega)]
    · rw [if_neg hS, if_neg (fun h => hS h.2)]
  · rw [if_neg hK, if_neg (fun h => hK h.1)]
theorem r5_Check_eq (k : Nat) (n pi e g f : Int) (ps : List Int) (K R S P V : Int) (l : List S26) (h0 : 0 ≤ n) (h1 : n ≤ 1000) (h2 : ps.length ≤ 1000) (hl : l.length ≤ 1000000) (hk : l.length + 10 < k) :
    plaitingref5_Check.f k n pi e g f ps K R S P V l = frame_Check.f n pi e g f ps K R S P V l := by
  obtain ⟨k, rfl⟩ : ∃ q, k = q + 4 := ⟨k - 4, by omega⟩
  have hj0 : ∀ x, plaitingref5_Check.j0 (k + 4) x n pi e g f ps K R S P V l = if x = true then some 1 else (if K < 1 then plaitingref5_Check.j1 (k + 3) true n pi e g f ps K R S P V l else (if K > 3 then plaitingref5_Check.j1 (k + 3) true n pi e g f ps K R S P V l else (if K = 3 then plaitingref5_Check.j1 (k + 3) false n pi e g f ps K R S P V l else plaitingref5_Check.j1 (k + 3) (decide (S ≥ n)) n pi e g f ps K R S P V l))) := fun x => by rw [show k + 4 = (k + 3) + 1 from rfl, plaitingref5_Check.j0]
  have hj2 : ∀ x, plaitingref5_Check.j2 (k + 2) x n pi e g f ps K R S P V l = if x = true then some 1 else (if (l.length : Int) = frame_echoesV n ps.length K S then some (if l.any (fun x => !itemEmp x && !itemVal x) = true then 1 else 0) else some 2) := fun x => by
    rw [show k + 2 = (k + 1) + 1 from rfl, plaitingref5_Check.j2, r5_echoes_eq n pi e g f ps K S h0 h1 h2, Option.bind_some, show (0 : Int) = ((0 : Nat) : Int) from rfl, r5_check_loop K R S P V l hl l.length (k + 1) 0 (by omega) (by omega) (by omega)]
    rfl
  have hj1 : ∀ x, plaitingref5_Check.j1 (k + 3) x n pi e g f ps K R S P V l = if x = true then some 6 else (if (if (K == 3) = true then itemVal ⟨P, V⟩ else itemOk ⟨P, V⟩) = true then (if K = 3 then plaitingref5_Check.j2 (k + 2) false n pi e g f ps K R S P V l else plaitingref5_Check.j2 (k + 2) (P != 0) n pi e g f ps K R S P V l) else plaitingref5_Check.j2 (k + 2) true n pi e g f ps K R S P V l) := fun x => by
    rw [show k + 3 = (k + 2) + 1 from rfl, plaitingref5_Check.j1]
    have := r5_item_eq ⟨P, V⟩ (K == 3)
    dsimp only at this
    rw [this, Option.bind_some]
  have hw : wrap64 (n + (ps.length : Int)) = n + ps.length := w64 (by omega) (by omega)
  unfold plaitingref5_Check.f frame_Check.f
  rw [r3_Slots_eq n pi e g f ps h0 h1 h2, Option.bind_some, hw, hj0, hj0, if_pos rfl]
  by_cases a1 : S < 0
  · rw [if_pos a1, if_pos (.inl a1)]
  · rw [if_neg a1]
    by_cases a2 : S ≥ n + ps.length
    · rw [if_pos a2, if_pos (.inr (.inl a2))]
    · rw [if_neg a2]
      by_cases a3 : R < 0
      · rw [if_pos a3, if_pos (.inr (.inr (.inl a3)))]
      · rw [if_neg a3]
        by_cases a4 : R ≥ 65536
        · rw [decide_eq_true a4, if_pos rfl, if_pos (.inr (.inr (.inr (by omega))))]
        · rw [decide_eq_false a4, if_neg (by decide), if_neg (show ¬ (S < 0 ∨ n + (ps.length : Int) ≤ S ∨ R < 0 ∨ 65535 < R) by omega)]
          rw [hj1, hj1, hj1, if_pos rfl]
          by_cases b1 : K < 1
          · rw [if_pos b1, if_pos (.inl b1)]
          · rw [if_neg b1]
            by_cases b2 : K > 3
            · rw [if_pos b2, if_pos (.inr (.inl b2))]
            · rw [if_neg b2]
              by_cases b3 : K = 3
              · rw [if_pos b3, if_neg (by decide), if_neg (show ¬ (K < 1 ∨ 3 < K ∨ (n ≤ S ∧ K ≠ 3)) by omega), if_pos b3, if_pos (beq_iff_eq.2 b3), hj2, hj2, if_pos b3]
                by_cases q : itemVal ⟨P, V⟩ = true
                · rw [if_pos q, if_neg (show ¬ (false = true) by decide), if_neg (show ¬ itemVal ⟨P, V⟩ = false by rw [q]; decide)]
                  by_cases z : (l.length : Int) = frame_echoesV n ps.length K S
                  · rw [if_pos z, if_neg (show ¬ ((l.length : Int) ≠ frame_echoesV n ps.length K S) from fun h_ => h_ z)]
                    by_cases y : l.any (fun x => !itemEmp x && !itemVal x) = true
                    · rw [if_pos y, if_pos y]
                    · rw [if_neg y, if_neg y]
                  · rw [if_neg z, if_pos z]
                · rw [if_neg q, if_pos rfl, if_pos (Bool.eq_false_iff.mpr q)]
              · rw [if_neg b3]
                by_cases b4 : S ≥ n
                · rw [decide_eq_true b4, if_pos rfl, if_pos (.inr (.inr ⟨b4, b3⟩))]
                · rw [decide_eq_false b4, if_neg (by decide), if_neg (show ¬ (K < 1 ∨ 3 < K ∨ (n ≤ S ∧ K ≠ 3)) by omega), if_neg (show ¬ (K == 3) = true from fun h_ => b3 (beq_iff_eq.1 h_)), if_neg b3, hj2, hj2, if_neg b3]
                  have hi : itemOk ⟨P, V⟩ = (itemEmp ⟨P, V⟩ || itemVal ⟨P, V⟩) := rfl
                  by_cases p0 : P = 0
                  · subst p0
                    have hv : itemVal ⟨0, V⟩ = false := rfl
                    rw [hi, hv, Bool.or_false]
                    by_cases q : itemEmp ⟨0, V⟩ = true
                    · rw [if_pos q, if_neg (show ¬ ((0 : Int) != 0) = true by decide), if_neg (show ¬ itemEmp ⟨0, V⟩ = false by rw [q]; decide)]
                      by_cases z : (l.length : Int) = frame_echoesV n ps.length K S
                      · rw [if_pos z, if_neg (show ¬ ((l.length : Int) ≠ frame_echoesV n ps.length K S) from fun h_ => h_ z)]
                        by_cases y : l.any (fun x => !itemEmp x && !itemVal x) = true
                        · rw [if_pos y, if_pos y]
                        · rw [if_neg y, if_neg y]
                      · rw [if_neg z, if_pos z]
                    · rw [if_neg q, if_pos rfl, if_pos (Bool.eq_false_iff.mpr q)]
                  · have hv : itemEmp ⟨P, V⟩ = false := by unfold itemEmp; rw [beq_eq_false_iff_ne.2 p0]; rfl
                    have hp : (P != 0) = true := bne_iff_ne.2 p0
                    rw [hv, if_pos rfl, hp, if_pos rfl]
                    split <;> rfl
theorem r5_read_loop (n pi e g f : Int) (ps : List Int) (K R S P V : Int) (b : List UInt8) (hb : ∀ c ∈ b, isBit c = true) (hln : b.length ≤ 1000000) (h0 : 0 ≤ n) (h1 : n ≤ 1000) (h2 : ps.length ≤ 1000) : ∀ (m k i : Nat) (acc : List S26), b.length = i + 10 * m → acc.length ≤ i → 1000200 + m < k →
    plaitingref5_Read.l0 k (ofL b) (i : Int) n pi e g f ps K R S P V acc = some (readT n pi e g f ps K R S P V (acc ++ itemsL m (b.drop i)))
  | 0, k, i, acc, hl, ha, hk => by
    obtain ⟨k, rfl⟩ : ∃ q, k = q + 1 := ⟨k - 1, by omega⟩
    rw [plaitingref5_Read.l0, ofL_size, if_neg (by omega), r5_Check_eq k n pi e g f ps K R S P V acc h0 h1 h2 (by omega) (by omega), checkV_eq, Option.bind_some, itemsL, List.append_nil]
    unfold readT readE
    split <;> rfl
  | m + 1, k, i, acc, hl, ha, hk => by
    obtain ⟨k, rfl⟩ : ∃ q, k = q + 1 := ⟨k - 1, by omega⟩
    have w1 : wrap64 ((i : Int) + 10) = ((i + 10 : Nat) : Int) := by rw [w64 (by omega) (by omega)]; omega
    have hx : (b.take (i + 10)).drop i = (b.drop i).take 10 := by rw [List.drop_take]; congr 1; omega
    have hD : (b.drop i).drop 10 = b.drop (i + 10) := by rw [List.drop_drop]
    have ea : ((b.drop i).take 10).take 2 = (b.drop i).take 2 := by rw [List.take_take]; rfl
    have eb : (((b.drop i).take 10).drop 2).take 8 = ((b.drop i).drop 2).take 8 := by rw [List.drop_take, List.take_take]; rfl
    have hr := r5_read_eq k ((b.drop i).take 10) (by rw [List.length_take, List.length_drop]; omega) (fun c hc => hb c (List.mem_of_mem_drop (List.mem_of_mem_take hc))) (by omega)
    rw [ea, eb] at hr
    rw [plaitingref5_Read.l0, ofL_size, if_pos (by omega), if_pos (by omega), w1, if_pos (by omega), if_pos (by omega), Int.toNat_natCast, Int.toNat_natCast, extract_ofL2, hx, hr, Option.bind_some, if_pos (by omega), r5_read_loop n pi e g f ps K R S P V b hb hln h0 h1 h2 m k (i + 10) _ (by omega) (by rw [List.length_append, List.length_singleton]; omega) (by omega), itemsL, hD, List.append_assoc]
    rfl
theorem r5_Read_eq (k : Nat) (n pi e g f : Int) (ps : List Int) (s : ByteArray) (h1 : 0 ≤ n) (h2 : n ≤ 1000) (h3 : ps.length ≤ 1000) (hs : s.size ≤ 1000000) (hk : 3000000 ≤ k) : plaitingref5_Read.f k n pi e g f ps s = some (readL n pi e g f ps (toL s)) := by
  unfold plaitingref5_Read.f readL
  obtain ⟨k, rfl⟩ : ∃ q, k = q + 70 := ⟨k - 70, by omega⟩
  rw [r2_Open_eq k s hs (by omega), Option.bind_some]
  have hbl := openL_bits (toL s)
  have hln := openL_length (toL s)
  rw [toL_length] at hln
  generalize openL (toL s) = o at *
  obtain ⟨b, e0⟩ := o
  dsimp only at hbl hln ⊢
  by_cases he : e0 = 0
  · rw [if_pos he, if_pos he, ofL_size]
    unfold readB
    by_cases hl : b.length < 34
    · rw [if_pos (by omega), if_pos hl]
      rfl
    · have q1 := r5_number_eq (k + 70) (b.take 2) (by rw [List.length_take]; omega) (by rw [List.length_take]; omega) (fun c hc => hbl c (List.mem_of_mem_take hc)) (by omega)
      have q2 := r5_number_eq (k + 70) ((b.drop 2).take 16) (by rw [List.length_take, List.length_drop]; omega) (by rw [List.length_take]; omega) (fun c hc => hbl c (List.mem_of_mem_drop (List.mem_of_mem_take hc))) (by omega)
      have q3 := r5_number_eq (k + 70) ((b.drop 18).take 6) (by rw [List.length_take, List.length_drop]; omega) (by rw [List.length_take]; omega) (fun c hc => hbl c (List.mem_of_mem_drop (List.mem_of_mem_take hc))) (by omega)
      have q4 := r5_read_eq (k + 70) ((b.drop 24).take 10) (by rw [List.length_take, List.length_drop]; omega) (fun c hc => hbl c (List.mem_of_mem_drop (List.mem_of_mem_take hc))) (by omega)
      have ea : ((b.drop 24).take 10).take 2 = (b.drop 24).take 2 := by rw [List.take_take]; rfl
      have eb : (((b.drop 24).take 10).drop 2).take 8 = (b.drop 26).take 8 := by rw [List.drop_take, List.take_take, List.drop_drop]; rfl
      rw [ea, eb] at q4
      have x1 : (ofL b).extract 0 2 = ofL (b.take 2) := by rw [extract_ofL, toL_ofL]
      have x2 : (ofL b).extract 2 18 = ofL ((b.drop 2).take 16) := by rw [extract_ofL2, List.drop_take]
      have x3 : (ofL b).extract 18 24 = ofL ((b.drop 18).take 6) := by rw [extract_ofL2, List.drop_take]
      have x4 : (ofL b).extract 24 34 = ofL ((b.drop 24).take 10) := by rw [extract_ofL2, List.drop_take]
      rw [if_neg (show ¬ ((b.length : Nat) : Int) < 34 by omega), if_neg hl, if_pos (by decide), if_pos (by omega), x1, q1, Option.bind_some, if_pos (by decide), if_pos (by omega), x2, q2, Option.bind_some, if_pos (by decide), if_pos (by omega), x3, q3, Option.bind_some, if_pos (by decide), if_pos (by omega), x4, q4, Option.bind_some, r5_echoes_eq n pi e g f ps _ _ h1 h2 h3, Option.bind_some]
      have hE := echoesV_bounds n ps.length (numL (b.take 2)) (numL ((b.drop 18).take 6)) h1 h2 h3
      rw [w64 (x := (b.length : Int) - 34) (by omega) (by omega), w64 (by omega) (by omega)]
      by_cases hq : (b.length : Int) - 34 = 10 * frame_echoesV n ps.length (numL (b.take 2)) (numL ((b.drop 18).take 6))
      · rw [if_pos hq, if_pos hq, show (34 : Int) = ((34 : Nat) : Int) from rfl]
        exact r5_read_loop n pi e g f ps _ _ _ _ _ b hbl (by omega) h1 h2 h3 ((b.length - 34) / 10) (k + 70) 34 [] (by omega) (by simp) (by omega)
      · rw [if_neg hq, if_neg hq]
        rfl
  · rw [if_neg he, if_neg he]
    rfl
end Go.Proofs.Ytcpohmfkmgcjkaa.P
