/- Plain lemmas on configurations: what Make makes of a raw one, and what is derived of it. -/
import Derived.Test.YtdkbalaphblobaaMath
import Derived.Test.YtdkbalaphblobaaPx11
import Derived.Test.YtdkbalaphblobaaPx10
import Derived.Test.YtdkbalaphblobaaPx8
import Derived.Test.YtdkbalaphblobaaPx5
import Derived.Test.YtdkbalaphblobaaPx9
import Derived.Laws.BitsLemmas
namespace Go.Proofs.Ytdkbalaphblobaa.P
open Go.RowKit Go.Proofs.YtdkbalaphblobaaW.PrintWords Go.Proofs.YtdkbalaphblobaaW.PrintLast Go.Proofs.YtdkbalaphblobaaW.PrintMore
attribute [local go_sem] max2_int min2_int max_two min_two max_three min_three max_four min_four
set_option linter.unusedVariables false
set_option linter.unusedSimpArgs false
theorem c3_within (a n : Int) (hn : 0 < n) (hb : n ≤ 1000000000000) : plaitinglaw3_within.f a n = some (a % n) := within_gen a n hn hb
/-- A Conf that may be, of a raw one. -/
structure MadeConf (N Pi E G F : Int) (l : List Int) : Prop where
  n1 : 6 ≤ N
  n2 : N ≤ 12
  e1 : 0 ≤ E
  e2 : E ≤ 20
  g1 : 0 ≤ G
  g2 : G ≤ 20
  p1 : 4 * (E + G + 1) ≤ Pi
  p2 : Pi ≤ 4 * (E + G + 1) + 99
  f1 : 0 ≤ F
  f2 : F ≤ 65535
  l1 : l.length ≤ 3
  l2 : ∀ x ∈ l, -1 ≤ x ∧ x ≤ N - 1
def mkPairs (n : Int) (l : List Int) : List Int := (l.take 3).map (fun x => x % (n + 1) - 1)
theorem make_loop (k : Nat) (n a1 a2 a3 a4 a5 pi e g f : Int) (l : List Int) (hn : 6 ≤ n) (hn2 : n ≤ 12) (hl : l.length ≤ maxLen) :
    plaitinglaw3_Make.l0 (k + 4) 0 a1 a2 a3 a4 a5 l n pi e g f [] = some (n, pi, e, g, f, mkPairs n l) := by
  have w1 : wrap64 (n + 1) = n + 1 := w64 (by omega) (by omega)
  have hw : ∀ x : Int, wrap64 (x % (n + 1) - 1) = x % (n + 1) - 1 := by
    intro x
    have := mod_bounds x (n + 1) (by omega)
    exact w64 (by omega) (by omega)
  have hwi : ∀ x : Int, plaitinglaw3_within.f x (n + 1) = some (x % (n + 1)) := fun x => c3_within x _ (by omega) (by omega)
  have q1 : wrap64 (0 + 1) = 1 := by decide +kernel
  have q2 : wrap64 (1 + 1) = 2 := by decide +kernel
  have q3 : wrap64 (2 + 1) = 3 := by decide +kernel
  have r1 : wrap64 1 = 1 := by decide +kernel
  have r2 : wrap64 2 = 2 := by decide +kernel
  have r3 : wrap64 3 = 3 := by decide +kernel
  unfold maxLen at hl
  match l, hl with
  | [], _ => simp [plaitinglaw3_Make.l0, mkPairs]
  | [a], _ =>
    simp [plaitinglaw3_Make.l0, mkPairs, w1, hw, hwi, rd, r1]
  | [a, b], _ =>
    simp [plaitinglaw3_Make.l0, mkPairs, w1, hw, hwi, rd, r1, r2]
  | a :: b :: c :: t, hl =>
    simp only [List.length_cons] at hl
    have h0 : (0 : Int) < ((a :: b :: c :: t).length : Int) := by simp only [List.length_cons]; omega
    have h1 : (1 : Int) < ((a :: b :: c :: t).length : Int) := by simp only [List.length_cons]; omega
    have h2 : (2 : Int) < ((a :: b :: c :: t).length : Int) := by simp only [List.length_cons]; omega
    simp only [plaitinglaw3_Make.l0, w1, if_pos h0, if_pos h1, if_pos h2, q1, q2, q3]
    simp [hw, hwi, rd, mkPairs]
theorem make_eq (k : Nat) (N Pi E G F : Int) (l : List Int) (hl : l.length ≤ maxLen) :
    ∃ n pi e g f ps, MadeConf n pi e g f ps ∧ (∀ k, plaitinglaw3_Make.f (k + 6) N Pi E G F l = some (n, pi, e, g, f, ps)) ∧ ps = mkPairs n l := by
  have m1 := mod_bounds N 7 (by decide)
  have m2 := mod_bounds E 21 (by decide)
  have m3 := mod_bounds G 21 (by decide)
  have m4 := mod_bounds F 65536 (by decide)
  have m5 := mod_bounds F 40 (by decide)
  have m6 := mod_bounds Pi 100 (by decide)
  have hps : ∀ n : Int, 6 ≤ n → n ≤ 12 → (mkPairs n l).length ≤ 3 ∧ ∀ x ∈ mkPairs n l, -1 ≤ x ∧ x ≤ n - 1 := by
    intro n h1 h2
    refine ⟨by simp [mkPairs]; omega, fun x hx => ?_⟩
    simp only [mkPairs, List.mem_map] at hx
    obtain ⟨y, _, rfl⟩ := hx
    have := mod_bounds y (n + 1) (by omega)
    omega
  have hj : ∀ k f, plaitinglaw3_Make.j0 (k + 5) N Pi E G F l (6 + N % 7) 0 (E % 21) (G % 21) f = some (6 + N % 7, 4 * (E % 21 + G % 21 + 1) + Pi % 100, E % 21, G % 21, f, mkPairs (6 + N % 7) l) := by
    intro k f
    rw [plaitinglaw3_Make.j0]
    rw [c3_within Pi 100 (by decide) (by decide), Option.bind_some]
    rw [w64 (x := E % 21 + G % 21) (by omega) (by omega), w64 (x := E % 21 + G % 21 + 1) (by omega) (by omega), w64 (x := 4 * (E % 21 + G % 21 + 1)) (by omega) (by omega), w64 (by omega) (by omega)]
    exact make_loop k _ _ _ _ _ _ _ _ _ _ l (by omega) (by omega) hl
  have hm : ∀ f, 0 ≤ f → f ≤ 65535 → MadeConf (6 + N % 7) (4 * (E % 21 + G % 21 + 1) + Pi % 100) (E % 21) (G % 21) f (mkPairs (6 + N % 7) l) := fun f h1 h2 =>
    ⟨by omega, by omega, by omega, by omega, by omega, by omega, by omega, by omega, h1, h2, (hps _ (by omega) (by omega)).1, (hps _ (by omega) (by omega)).2⟩
  by_cases h3 : F % 3 = 0
  · refine ⟨_, _, _, _, 65535 - F % 40, _, hm _ (by omega) (by omega), fun k => ?_, rfl⟩
    unfold plaitinglaw3_Make.f
    rw [c3_within N 7 (by decide) (by decide), Option.bind_some, c3_within E 21 (by decide) (by decide), Option.bind_some, c3_within G 21 (by decide) (by decide), Option.bind_some, c3_within F 65536 (by decide) (by decide), Option.bind_some, c3_within F 3 (by decide) (by decide), Option.bind_some, if_pos h3, c3_within F 40 (by decide) (by decide), Option.bind_some]
    rw [w64 (x := 6 + N % 7) (by omega) (by omega), w64 (x := 65535 - F % 40) (by omega) (by omega)]
    exact hj (k + 1) _
  · refine ⟨_, _, _, _, F % 65536, _, hm _ (by omega) (by omega), fun k => ?_, rfl⟩
    unfold plaitinglaw3_Make.f
    rw [c3_within N 7 (by decide) (by decide), Option.bind_some, c3_within E 21 (by decide) (by decide), Option.bind_some, c3_within G 21 (by decide) (by decide), Option.bind_some, c3_within F 65536 (by decide) (by decide), Option.bind_some, c3_within F 3 (by decide) (by decide), Option.bind_some, if_neg h3]
    rw [w64 (x := 6 + N % 7) (by omega) (by omega)]
    exact hj (k + 1) _
theorem conf_Most_eq (N Pi E G F : Int) (l : List Int) (h0 : 0 ≤ N) (h1 : N ≤ 1000) : conf_Most.f N Pi E G F l = some (N / 2 + 1) := by
  unfold conf_Most.f
  rw [Int.tdiv_eq_ediv_of_nonneg h0, w64 (x := N / 2) (by omega) (by omega), w64 (by omega) (by omega)]
theorem conf_Slots_eq (N Pi E G F : Int) (l : List Int) (h0 : 0 ≤ N) (h1 : N ≤ 1000) (h2 : l.length ≤ 1000) : conf_Slots.f N Pi E G F l = some (N + l.length) := by
  unfold conf_Slots.f
  rw [w64 (by omega) (by omega)]
theorem and_65535 (x : Int) (h0 : 0 ≤ x) (h1 : x < 1099511627776) : Go.bits .and .i64 x 65535 = x % 65536 := by
  have h := bits_mask .i64 40 (by decide) (fun n a b => by rw [IntKind.wrap_i64]; omega) 16 (by decide) x h0 (by simpa using h1)
  simpa using h
theorem conf_Wire_eq (N Pi E G F : Int) (l : List Int) (r : Int) (h0 : 0 ≤ F) (h1 : F ≤ 65535) (h2 : 0 ≤ r) (h3 : r ≤ 1073741824) : conf_Wire.f N Pi E G F l r = some ((F + r) % 65536) := by
  unfold conf_Wire.f
  rw [w64 (by omega) (by omega), and_65535 _ (by omega) (by omega)]
theorem r3_In_loop (l : List Int) (x : Int) (hl : l.length ≤ 1000) : ∀ d (k i : Nat), l.length - i = d → d < k → plaitingref3_In.l0 k l x (i : Int) = some ((l.drop i).any (· == x)) := by
  intro d
  induction d with
  | zero =>
    intro k i h1 h2
    obtain ⟨k, rfl⟩ : ∃ m, k = m + 1 := ⟨k - 1, by omega⟩
    rw [plaitingref3_In.l0, if_neg (by omega), List.drop_eq_nil_of_le (by omega)]
    rfl
  | succ d ih =>
    intro k i h1 h2
    obtain ⟨k, rfl⟩ : ∃ m, k = m + 1 := ⟨k - 1, by omega⟩
    have hi : i < l.length := by omega
    rw [plaitingref3_In.l0, if_pos (by omega), if_pos (by omega), List.drop_eq_getElem_cons hi, List.any_cons]
    have hr : rd l (i : Int) = l[i] := by
      unfold rd
      rw [Int.toNat_natCast, List.getD_eq_getElem?_getD, List.getElem?_eq_getElem hi]
      rfl
    rw [hr]
    by_cases e : l[i] = x
    · rw [if_pos e, beq_iff_eq.mpr e, Bool.true_or]
    · rw [if_neg e, beq_eq_false_iff_ne.mpr e, Bool.false_or, w64 (by omega) (by omega), show (i : Int) + 1 = ((i + 1 : Nat) : Int) from by omega]
      exact ih k (i + 1) (by omega) (by omega)
theorem r3_In_eq (k : Nat) (l : List Int) (x : Int) (hl : l.length ≤ 1000) (hk : l.length < k) : plaitingref3_In.f k l x = some (l.any (· == x)) := by
  unfold plaitingref3_In.f
  exact r3_In_loop l x hl _ k 0 rfl (by omega)
theorem contains_eq_any (l : List Int) (x : Int) : l.any (· == x) = l.any (fun y => x == y) := by
  congr 1
  funext y
  rw [Bool.eq_iff_iff, beq_iff_eq, beq_iff_eq]
  exact eq_comm
theorem r3_Same_loop (a b : List Int) (hab : a.length = b.length) (hl : a.length ≤ 1000) : ∀ d (k i : Nat), a.length - i = d → d < k → plaitingref3_Same.l0 k a b (i : Int) = some (decide (a.drop i = b.drop i)) := by
  intro d
  induction d with
  | zero =>
    intro k i h1 h2
    obtain ⟨k, rfl⟩ : ∃ m, k = m + 1 := ⟨k - 1, by omega⟩
    rw [plaitingref3_Same.l0, if_neg (by omega), List.drop_eq_nil_of_le (by omega), List.drop_eq_nil_of_le (by omega)]
    simp
  | succ d ih =>
    intro k i h1 h2
    obtain ⟨k, rfl⟩ : ∃ m, k = m + 1 := ⟨k - 1, by omega⟩
    have hi : i < a.length := by omega
    have hj : i < b.length := by omega
    have hr : ∀ (l : List Int) (h : i < l.length), rd l (i : Int) = l[i] := by
      intro l h
      unfold rd
      rw [Int.toNat_natCast, List.getD_eq_getElem?_getD, List.getElem?_eq_getElem h]
      rfl
    rw [plaitingref3_Same.l0]
    simp only [show (i : Int) < (a.length : Int) from by omega, show (0 : Int) ≤ (i : Int) from by omega, show (i : Int) < (b.length : Int) from by omega, if_true]
    rw [hr a hi, hr b hj]
    by_cases e : a[i] = b[i]
    · rw [if_pos e, w64 (by omega) (by omega), show (i : Int) + 1 = ((i + 1 : Nat) : Int) from by omega, ih k (i + 1) (by omega) (by omega), Option.some.injEq, decide_eq_decide, List.drop_eq_getElem_cons hi, List.drop_eq_getElem_cons hj, e]
      exact ⟨fun h => by rw [h], fun h => (List.cons.inj h).2⟩
    · rw [if_neg e, Option.some.injEq]
      symm
      rw [decide_eq_false_iff_not, List.drop_eq_getElem_cons hi, List.drop_eq_getElem_cons hj]
      exact fun h => e (List.cons.inj h).1
theorem r3_Same_eq (k : Nat) (a b : List Int) (hl : a.length ≤ 1000) (hk : a.length < k) : plaitingref3_Same.f k a b = some (decide (a = b)) := by
  unfold plaitingref3_Same.f
  by_cases h : a.length = b.length
  · rw [if_pos (by omega)]
    exact r3_Same_loop a b h hl _ k 0 rfl (by omega)
  · rw [if_neg (by omega)]
    congr 1
    symm
    rw [decide_eq_false_iff_not]
    rintro rfl
    exact h rfl
theorem sl_Index_loop (l : List Int) (x : Int) (hl : l.length ≤ 1000) : ∀ d (k i : Nat), l.length - i = d → d < k → ∃ r, slices_Index_int_int.l0 k l x (l.length : Int) (i : Int) = some r ∧ decide (r ≥ 0) = (l.drop i).any (· == x) := by
  intro d
  induction d with
  | zero =>
    intro k i h1 h2
    obtain ⟨k, rfl⟩ : ∃ m, k = m + 1 := ⟨k - 1, by omega⟩
    rw [slices_Index_int_int.l0, if_neg (by omega), List.drop_eq_nil_of_le (by omega)]
    exact ⟨_, rfl, rfl⟩
  | succ d ih =>
    intro k i h1 h2
    obtain ⟨k, rfl⟩ : ∃ m, k = m + 1 := ⟨k - 1, by omega⟩
    have hi : i < l.length := by omega
    have hr : rd l (i : Int) = l[i] := by
      unfold rd
      rw [Int.toNat_natCast, List.getD_eq_getElem?_getD, List.getElem?_eq_getElem hi]
      rfl
    rw [slices_Index_int_int.l0, if_pos (by omega), if_pos (by omega), if_pos (by omega), hr, List.drop_eq_getElem_cons hi, List.any_cons]
    by_cases e : x = l[i]
    · rw [if_pos e]
      refine ⟨_, rfl, ?_⟩
      rw [beq_iff_eq.mpr e.symm, Bool.true_or]
      exact decide_eq_true (by omega)
    · rw [if_neg e, beq_eq_false_iff_ne.mpr (fun h => e h.symm), Bool.false_or, w64 (by omega) (by omega), show (i : Int) + 1 = ((i + 1 : Nat) : Int) from by omega]
      exact ih k (i + 1) (by omega) (by omega)
theorem sl_Contains_eq (k : Nat) (l : List Int) (x : Int) (hl : l.length ≤ 1000) (hk : l.length < k) : slices_Contains_int_int.f k l x = some (l.any (· == x)) := by
  unfold slices_Contains_int_int.f slices_Index_int_int.f
  obtain ⟨r, h1, h2⟩ := sl_Index_loop l x hl _ k 0 rfl (by omega)
  have h1' : slices_Index_int_int.l0 k l x (l.length : Int) 0 = some r := h1
  rw [h1', Option.bind_some, h2]
  rfl

def ownersOf (n : Int) (ps : List Int) (s : Int) : List Int :=
  if s < 0 then [] else if s < n then [s] else if s - n < (ps.length : Int) then (if rd ps (s - n) < 0 then [] else [rd ps (s - n), (rd ps (s - n) + 1) % n]) else []
theorem rd_range {ps : List Int} {n : Int} (h : ∀ x ∈ ps, -1 ≤ x ∧ x ≤ n - 1) (i : Int) (h0 : 0 ≤ i) (h1 : i < (ps.length : Int)) : -1 ≤ rd ps i ∧ rd ps i ≤ n - 1 := by
  have hi : i.toNat < ps.length := by omega
  unfold rd
  rw [List.getD_eq_getElem?_getD, List.getElem?_eq_getElem hi]
  exact h _ (List.getElem_mem hi)
theorem conf_Owners_eq (k : Nat) (n pi e g f : Int) (ps : List Int) (s : Int) (n1 : 6 ≤ n) (n2 : n ≤ 12) (l1 : ps.length ≤ 3) (l2 : ∀ x ∈ ps, -1 ≤ x ∧ x ≤ n - 1) (hs : s ≤ 9223372036854775807) :
    conf_Owners.f (k + 1) n pi e g f ps s = some (ownersOf n ps s) := by
  unfold conf_Owners.f ownersOf
  by_cases h0 : s < 0
  · rw [if_pos h0, if_pos h0, conf_Owners.j0, if_pos rfl]
  · rw [if_neg h0, if_neg h0, w64 (by omega) (by omega), conf_Owners.j0]
    by_cases h1 : s < n
    · rw [if_pos h1, if_neg (by simp; omega), if_pos (by omega)]
    · rw [if_neg h1]
      by_cases h2 : s - n < (ps.length : Int)
      · have hr := rd_range l2 (s - n) (by omega) h2
        rw [if_pos h2, if_neg (by simp; omega), if_neg (by omega), if_pos (by omega), if_pos h2]
        by_cases h3 : rd ps (s - n) < 0
        · rw [if_pos h3, if_pos (by omega)]
        · rw [if_neg h3, if_neg (by omega), if_neg (by omega), if_neg (by omega), w64 (by omega) (by omega), Int.tmod_eq_emod_of_nonneg (by omega)]
      · rw [if_pos (by simp; omega), if_neg h2]
theorem r3_Owners_eq (k : Nat) (n pi e g f : Int) (ps : List Int) (s : Int) (n1 : 6 ≤ n) (n2 : n ≤ 12) (l1 : ps.length ≤ 3) (l2 : ∀ x ∈ ps, -1 ≤ x ∧ x ≤ n - 1) (hs : s ≤ 9223372036854775807) :
    plaitingref3_Owners.f (k + 1) n pi e g f ps s = some (ownersOf n ps s) := by
  unfold plaitingref3_Owners.f ownersOf
  by_cases h0 : s < 0
  · rw [if_pos h0, if_pos h0, plaitingref3_Owners.j0, if_pos rfl]
  · rw [if_neg h0, if_neg h0, plaitingref3_Slots.f, w64 (by omega) (by omega), Option.bind_some, plaitingref3_Owners.j0]
    by_cases h1 : s < n
    · rw [if_pos h1, if_neg (by simp; omega), if_pos h1]
    · rw [w64 (x := s - n) (by omega) (by omega)]
      by_cases h2 : s - n < (ps.length : Int)
      · have hr := rd_range l2 (s - n) (by omega) h2
        rw [if_neg (by simp; omega), if_neg h1, if_pos (by omega), if_pos h2, if_neg h1, if_pos h2]
        by_cases h3 : rd ps (s - n) < 0
        · rw [if_pos h3, if_pos h3]
        · rw [if_neg h3, if_neg h3, if_neg (by omega), w64 (by omega) (by omega), Int.tmod_eq_emod_of_nonneg (by omega)]
      · rw [if_pos (by simp; omega), if_neg h1, if_neg h2]
def votersFrom (n : Nat) (o : List Int) (i : Nat) : List Int := ((List.range' i (n - i)).map (fun j : Nat => (j : Int))).filter (fun x => !o.any (· == x))
theorem votersFrom_step (n : Nat) (o : List Int) (i : Nat) (h : i < n) : votersFrom n o i = (if o.any (· == (i : Int)) = true then votersFrom n o (i + 1) else (i : Int) :: votersFrom n o (i + 1)) := by
  unfold votersFrom
  rw [show n - i = (n - (i + 1)) + 1 from by omega, List.range'_succ, List.map_cons, List.filter_cons]
  cases o.any (· == (i : Int)) <;> simp
theorem votersFrom_end (n : Nat) (o : List Int) (i : Nat) (h : n ≤ i) : votersFrom n o i = [] := by
  unfold votersFrom
  rw [show n - i = 0 from by omega]
  rfl
theorem conf_Voters_loop (o : List Int) (n : Nat) (hn : n ≤ 12) (ho : o.length ≤ 3) : ∀ d (k i : Nat) (acc : List Int), n - i = d → acc.length ≤ i → i ≤ n → d + 4 < k → conf_Voters.l0 k o acc (n : Int) (i : Int) = some (acc ++ votersFrom n o i) := by
  intro d
  induction d with
  | zero =>
    intro k i acc h1 ha hi h2
    obtain ⟨k, rfl⟩ : ∃ m, k = m + 1 := ⟨k - 1, by omega⟩
    rw [conf_Voters.l0, if_neg (by omega), votersFrom_end _ _ _ (by omega), List.append_nil]
  | succ d ih =>
    intro k i acc h1 ha hi h2
    obtain ⟨k, rfl⟩ : ∃ m, k = m + 1 := ⟨k - 1, by omega⟩
    rw [conf_Voters.l0, if_pos (by omega), sl_Contains_eq k o _ (by omega) (by omega), Option.bind_some, votersFrom_step _ _ _ (by omega), w64 (by omega) (by omega), show (i : Int) + 1 = ((i + 1 : Nat) : Int) from by omega]
    by_cases h : o.any (· == (i : Int)) = true
    · rw [if_pos h, if_pos h]
      exact ih k (i + 1) acc (by omega) (by omega) (by omega) (by omega)
    · rw [if_neg h, if_neg h, if_pos (by omega), ih k (i + 1) _ (by omega) (by simp; omega) (by omega) (by omega), List.append_assoc]
      rfl
theorem r3_Voters_loop (o : List Int) (n : Nat) (hn : n ≤ 12) (ho : o.length ≤ 3) (b c d' e : Int) (ps : List Int) : ∀ d (k i : Nat) (acc : List Int), n - i = d → acc.length ≤ i → i ≤ n → d + 4 < k → plaitingref3_Voters.l0 k acc o (i : Int) (n : Int) b c d' e ps = some (acc ++ votersFrom n o i) := by
  intro d
  induction d with
  | zero =>
    intro k i acc h1 ha hi h2
    obtain ⟨k, rfl⟩ : ∃ m, k = m + 1 := ⟨k - 1, by omega⟩
    rw [plaitingref3_Voters.l0, if_neg (by omega), votersFrom_end _ _ _ (by omega), List.append_nil]
  | succ d ih =>
    intro k i acc h1 ha hi h2
    obtain ⟨k, rfl⟩ : ∃ m, k = m + 1 := ⟨k - 1, by omega⟩
    rw [plaitingref3_Voters.l0, if_pos (by omega), r3_In_eq k o _ (by omega) (by omega), Option.bind_some, votersFrom_step _ _ _ (by omega), w64 (by omega) (by omega), show (i : Int) + 1 = ((i + 1 : Nat) : Int) from by omega]
    by_cases h : o.any (· == (i : Int)) = true
    · rw [if_pos h, if_pos h]
      exact ih k (i + 1) acc (by omega) (by omega) (by omega) (by omega)
    · rw [if_neg h, if_neg h, if_pos (by omega), ih k (i + 1) _ (by omega) (by simp; omega) (by omega) (by omega), List.append_assoc]
      rfl
theorem ownersOf_length (n : Int) (ps : List Int) (s : Int) : (ownersOf n ps s).length ≤ 3 := by
  unfold ownersOf
  repeat' split
  all_goals simp
theorem conf_Voters_eq (k : Nat) (n pi e g f : Int) (ps : List Int) (s : Int) (n1 : 6 ≤ n) (n2 : n ≤ 12) (l1 : ps.length ≤ 3) (l2 : ∀ x ∈ ps, -1 ≤ x ∧ x ≤ n - 1) (hs : s ≤ 9223372036854775807) :
    conf_Voters.f (k + 18) n pi e g f ps s = some (votersFrom n.toNat (ownersOf n ps s) 0) := by
  unfold conf_Voters.f
  rw [conf_Owners_eq (k + 17) n pi e g f ps s n1 n2 l1 l2 hs, Option.bind_some]
  have hm : mn n 12 = n := by unfold mn; omega
  obtain ⟨m, rfl⟩ := Int.eq_ofNat_of_zero_le (show 0 ≤ n by omega)
  rw [hm]
  have := conf_Voters_loop (ownersOf (m : Int) ps s) m (by omega) (ownersOf_length _ _ _) m (k + 18) 0 [] (by omega) (by simp) (by omega) (by omega)
  simpa using this
theorem r3_Voters_eq (k : Nat) (n pi e g f : Int) (ps : List Int) (s : Int) (n1 : 6 ≤ n) (n2 : n ≤ 12) (l1 : ps.length ≤ 3) (l2 : ∀ x ∈ ps, -1 ≤ x ∧ x ≤ n - 1) (hs : s ≤ 9223372036854775807) :
    plaitingref3_Voters.f (k + 18) n pi e g f ps s = some (votersFrom n.toNat (ownersOf n ps s) 0) := by
  unfold plaitingref3_Voters.f
  rw [r3_Owners_eq (k + 17) n pi e g f ps s n1 n2 l1 l2 hs, Option.bind_some]
  obtain ⟨m, rfl⟩ := Int.eq_ofNat_of_zero_le (show 0 ≤ n by omega)
  have := r3_Voters_loop (ownersOf (m : Int) ps s) m (by omega) (ownersOf_length _ _ _) pi e g f ps m (k + 18) 0 [] (by omega) (by simp) (by omega) (by omega)
  simpa using this
theorem votersFrom_length (n : Nat) (o : List Int) : (votersFrom n o 0).length ≤ n := by
  unfold votersFrom
  refine Nat.le_trans (List.length_filter_le _ _) ?_
  simp

end Go.Proofs.Ytdkbalaphblobaa.P
