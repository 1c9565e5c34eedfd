/- Proves ConfChecks: every raw configuration, and every made one with one thing turned, is checked as the reference checks it (no condition on the inputs). -/
import Derived.Test.YtdkbalaphblobaaConf
import Derived.Test.YtdkbalaphblobaaPx12
namespace Go.Proofs.Ytdkbalaphblobaa.Pure
open Go.RowKit Go.Proofs.Ytdkbalaphblobaa.P Go.Proofs.YtdkbalaphblobaaW.PrintWords Go.Proofs.YtdkbalaphblobaaW.PrintLast
theorem r3_bad_false {x n : Int} (h1 : ¬ x < -1) (h2 : ¬ x ≥ n) : inb x (-1) (n - 1) = true := inb_iff.mpr ⟨by omega, by omega⟩
theorem r3_bad_lo {x n : Int} (h1 : x < -1) : inb x (-1) (n - 1) = false := inb_false.mpr (by omega)
theorem r3_bad_hi {x n : Int} (h1 : x ≥ n) : inb x (-1) (n - 1) = false := inb_false.mpr (by omega)
theorem r3_Check_loop (N Pi E G F : Int) (l : List Int) (hl : l.length ≤ 3) : ∀ d (k i : Nat), l.length - i = d → d < k →
    plaitingref3_Check.l0 k (i : Int) N Pi E G F l = some (if (l.drop i).any (fun x => !inb x (-1) (N - 1)) = true then 1 else 0) := by
  intro d
  induction d with
  | zero =>
    intro k i h1 h2
    obtain ⟨k, rfl⟩ : ∃ m, k = m + 1 := ⟨k - 1, by omega⟩
    rw [plaitingref3_Check.l0, if_neg (by omega), List.drop_eq_nil_of_le (by omega)]
    rfl
  | succ d ih =>
    intro k i h1 h2
    obtain ⟨k, rfl⟩ : ∃ m, k = m + 1 := ⟨k - 1, by omega⟩
    have hi : i < l.length := by omega
    have hr : rd l (i : Int) = l[i] := by
      unfold rd
      rw [Int.toNat_natCast, List.getD_eq_getElem?_getD, List.getElem?_eq_getElem hi]
      rfl
    rw [plaitingref3_Check.l0, if_pos (by omega), if_pos (by omega), hr, List.drop_eq_getElem_cons hi, List.any_cons]
    by_cases h3 : l[i] < -1
    · rw [if_pos h3, r3_bad_lo h3, Bool.not_false, Bool.true_or, if_pos rfl]
    rw [if_neg h3]
    by_cases h4 : l[i] ≥ N
    · rw [if_pos h4, r3_bad_hi h4, Bool.not_false, Bool.true_or, if_pos rfl]
    rw [if_neg h4, r3_bad_false h3 h4, Bool.not_true, Bool.false_or, w64 (by omega) (by omega), show (i : Int) + 1 = ((i + 1 : Nat) : Int) from by omega]
    exact ih k (i + 1) (by omega) (by omega)
theorem r3_j1 (k : Nat) (N Pi E G F : Int) (l : List Int) : plaitingref3_Check.j1 (k + 1) true N Pi E G F l = some 1 := by
  rw [plaitingref3_Check.j1, if_pos rfl]
theorem r3_j0 (k : Nat) (N Pi E G F : Int) (l : List Int) : plaitingref3_Check.j0 (k + 1) true N Pi E G F l = some 1 := by
  rw [plaitingref3_Check.j0, if_pos rfl]
theorem check_same (k : Nat) (N Pi E G F : Int) (l : List Int) : plaitingref3_Check.f (k + 10) N Pi E G F l = conf_Check.f N Pi E G F l := by
  unfold plaitingref3_Check.f conf_Check.f
  rw [r3_j0]
  by_cases h1 : N < 6
  · rw [if_pos h1, if_pos (inb_false.mpr (Or.inl h1))]
  rw [if_neg h1]
  by_cases h2 : N > 12
  · rw [if_pos h2, if_pos (inb_false.mpr (Or.inr h2))]
  rw [if_neg h2, if_neg (c := inb N 6 12 = false) (by rw [inb_iff.mpr ⟨by omega, by omega⟩]; decide)]
  by_cases h3 : E < 0
  · rw [if_pos h3, if_pos (inb_false.mpr (Or.inl h3))]
  rw [if_neg h3]
  by_cases h4 : E > 100
  · rw [if_pos h4, if_pos (inb_false.mpr (Or.inr h4))]
  rw [if_neg h4, if_neg (c := inb E 0 100 = false) (by rw [inb_iff.mpr ⟨by omega, by omega⟩]; decide)]
  by_cases h5 : G < 0
  · rw [if_pos h5, if_pos (inb_false.mpr (Or.inl h5))]
  rw [if_neg h5]
  by_cases h6 : G > 100
  · rw [decide_eq_true h6, r3_j0, if_pos (inb_false.mpr (Or.inr h6))]
  rw [decide_eq_false h6, if_neg (c := inb G 0 100 = false) (by rw [inb_iff.mpr ⟨by omega, by omega⟩]; decide)]
  rw [plaitingref3_Check.j0, if_neg (by decide), r3_j1]
  rw [w64 (x := E + G) (by omega) (by omega), w64 (x := E + G + 1) (by omega) (by omega), w64 (by omega) (by omega)]
  have hF : inb F 0 65535 = false → (if Pi < 4 * (E + G + 1) then some 1 else (if Pi > 10000 then some 1 else (if F < 0 then some 1 else (plaitingref3_Check.j1 (k + 9) (decide (F ≥ 65536)) N Pi E G F l)))) = some 1 := by
    intro h
    have := inb_false.mp h
    by_cases a : Pi < 4 * (E + G + 1)
    · rw [if_pos a]
    rw [if_neg a]
    by_cases b : Pi > 10000
    · rw [if_pos b]
    rw [if_neg b]
    by_cases c : F < 0
    · rw [if_pos c]
    rw [if_neg c, decide_eq_true (by omega), r3_j1]
  by_cases h7 : inb F 0 65535 = false
  · rw [hF h7, if_pos h7]
  rw [if_neg h7]
  have h7' := inb_iff.mp (eq_true_of_ne_false h7)
  by_cases h8 : Pi < 4 * (E + G + 1)
  · rw [if_pos h8, if_pos (inb_false.mpr (Or.inl h8))]
  rw [if_neg h8]
  by_cases h9 : Pi > 10000
  · rw [if_pos h9, if_pos (inb_false.mpr (Or.inr h9))]
  rw [if_neg h9, if_neg (c := inb Pi _ 10000 = false) (by rw [inb_iff.mpr ⟨by omega, by omega⟩]; decide), if_neg (by omega), decide_eq_false (by omega), plaitingref3_Check.j1, if_neg (by decide)]
  by_cases h10 : l.length > 3
  · rw [if_pos (by omega), if_pos h10]
  rw [if_neg (by omega), if_neg h10]
  have hlp := r3_Check_loop N Pi E G F l (by omega) (l.length - 0) (k + 8) 0 rfl (by omega)
  rw [show ((0 : Nat) : Int) = 0 from rfl, List.drop_zero] at hlp
  rw [hlp]
  split <;> rfl
theorem conf_Check_some (N Pi E G F : Int) (l : List Int) : ∃ r, conf_Check.f N Pi E G F l = some r := by
  unfold conf_Check.f
  repeat' split
  all_goals exact ⟨_, rfl⟩
theorem both_checked (k : Nat) (N Pi E G F : Int) (l : List Int) :
    ((conf_Check.f N Pi E G F l).bind fun a => (plaitingref3_Check.f (k + 10) N Pi E G F l).bind fun b => some (a == b)) = some true := by
  obtain ⟨r, h⟩ := conf_Check_some N Pi E G F l
  rw [check_same, h, Option.bind_some, Option.bind_some, beq_self_eq_true]
theorem made_ok {n pi e g f : Int} {ps : List Int} (h : MadeConf n pi e g f ps) : conf_Check.f n pi e g f ps = some 0 := by
  obtain ⟨n1, n2, e1, e2, g1, g2, p1, p2, f1, f2, l1, l2⟩ := h
  have t : ∀ {x a b : Int}, a ≤ x → x ≤ b → ¬ inb x a b = false := fun h1 h2 => by rw [inb_iff.mpr ⟨h1, h2⟩]; decide
  unfold conf_Check.f
  rw [if_neg (t n1 n2), if_neg (t e1 (by omega)), if_neg (t g1 (by omega)), if_neg (t f1 f2), if_neg (t p1 (by omega)), if_neg (by omega), if_neg ?_]
  rw [List.any_eq_true]
  rintro ⟨x, hx, h⟩
  have := l2 x hx
  rw [inb_iff.mpr ⟨by omega, by omega⟩] at h
  exact absurd h (by decide)
theorem ConfChecks : plaitinglaw3_ConfChecks.Pure := by
  intro N Pi E G F l which m _ _ _ _ _ hl _ _
  obtain ⟨n, pi, e, g, f, ps, hm, hk, _⟩ := make_eq 0 N Pi E G F l hl.1
  have hok := made_ok hm
  obtain ⟨n1, n2, e1, e2, g1, g2, p1, p2, f1, f2, l1, l2⟩ := hm
  refine ⟨40, ?_⟩
  unfold plaitinglaw3_ConfChecks.f plaitinglaw3_known.f
  simp only [Option.bind_some, if_true]
  by_cases h10 : (l.length : Int) > 10
  · rw [if_pos h10]
  rw [if_neg h10, hk 34]
  simp only [Option.bind_some]
  obtain ⟨r, hr⟩ := conf_Check_some N Pi E G F l
  rw [check_same 30, hr]
  simp only [Option.bind_some, if_true]
  rw [hok]
  simp only [Option.bind_some]
  rw [show ((0 : Int) != 0) = false from rfl, plaitinglaw3_ConfChecks.j0, if_neg (by decide), c3_within which 8 (by decide) (by decide)]
  simp only [Option.bind_some]
  have hw := mod_bounds which 8 (by decide)
  have hm2 := mod_bounds m 2 (by decide)
  have hm4 := mod_bounds m 4 (by decide)
  have B := fun N Pi E G F l => both_checked 29 N Pi E G F l
  by_cases c0 : which % 8 = 0
  · rw [if_pos c0]; exact B _ _ _ _ _ _
  rw [if_neg c0]
  by_cases c1 : which % 8 = 1
  · rw [if_pos c1]; exact B _ _ _ _ _ _
  rw [if_neg c1]
  by_cases c2 : which % 8 = 2
  · rw [if_pos c2]; exact B _ _ _ _ _ _
  rw [if_neg c2]
  by_cases c3 : which % 8 = 3
  · rw [if_pos c3, c3_within m 2 (by decide) (by decide), Option.bind_some]; exact B _ _ _ _ _ _
  rw [if_neg c3]
  by_cases c4 : which % 8 = 4
  · rw [if_pos c4, c3_within m 2 (by decide) (by decide), Option.bind_some]; exact B _ _ _ _ _ _
  rw [if_neg c4]
  by_cases c5 : which % 8 = 5
  · rw [if_pos c5, c3_within m 4 (by decide) (by decide), Option.bind_some, if_pos hm4.1, if_pos (by simpa using hm4.2)]; exact B _ _ _ _ _ _
  rw [if_neg c5]
  by_cases c6 : which % 8 = 6
  · rw [if_pos c6, if_pos (by simp only [List.length_nil]; omega), if_pos (by simp only [List.nil_append, List.length_cons, List.length_nil]; omega)]; exact B _ _ _ _ _ _
  rw [if_neg c6, if_pos (by omega), c3_within m 4 (by decide) (by decide), Option.bind_some, if_pos hm4.1, if_pos (by simpa using hm4.2)]; exact B _ _ _ _ _ _

end Go.Proofs.Ytdkbalaphblobaa.Pure
