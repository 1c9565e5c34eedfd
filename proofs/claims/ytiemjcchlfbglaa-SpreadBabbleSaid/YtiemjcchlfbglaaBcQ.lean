/- A run with two owners; where nothing is sent nothing leaves. -/
import Derived.Test.YtiemjcchlfbglaaBcM
import Derived.KernelRfl
namespace Go.Proofs.YtiemjcchlfbglaaE
open Go
set_option linter.unusedVariables false
set_option linter.unusedSimpArgs false
set_option maxRecDepth 100000

def s_x0 (dir : Int) (s s2 : ByteArray) : ByteArray := if dir = 1 then s2 else s
def s_x1 (dir : Int) (s s2 : ByteArray) : ByteArray := if dir = 1 then s else s2
section
variable {P : RG} {a : Int} {s s2 : ByteArray}
theorem g2_far (hok : gOk P (s_last P.n a P.dir) true (P.n - 2).toNat) (ha : 0 ≤ a) (ha2 : a < P.n) {i : Int} (i0 : 0 ≤ i) (i1 : i < P.n) :
    ((s_far P.n (s_last P.n a P.dir) P.dir i).toNat = 0 ↔ i = s_last P.n a P.dir) ∧ ((((s_far P.n (s_last P.n a P.dir) P.dir i).toNat : Nat) : Int) = P.n - 1 ↔ i = if P.dir = 1 then a else s_rem (a + 1) P.n) := by
  have hd := hok.2.2.1
  have hl := last_lt (n := P.n) (dir := P.dir) (by have := hok.1; omega) ha ha2
  have hf := far_lt (n := P.n) (o := s_last P.n a P.dir) (dir := P.dir) (by have := hok.1; omega) i
  have hln := last_node (n := P.n) (dir := P.dir) hok.1 ha ha2 hd
  have f0 := far_node hd hl.1 hl.2 (k := 0) (by have := hok.1; omega)
  have f1 := far_node hd hl.1 hl.2 (k := P.n.toNat - 1) (by have := hok.1; omega)
  have hnf := node_far hd hl.1 hl.2 i0 i1
  rw [node_zero hl.1 hl.2] at f0
  have hn := hok.1
  constructor
  · constructor
    · intro h
      rw [h, node_zero hl.1 hl.2] at hnf
      exact hnf.symm
    · intro h
      rw [h, f0]; rfl
  · constructor
    · intro h
      have h : (s_far P.n (s_last P.n a P.dir) P.dir i).toNat = P.n.toNat - 1 := by omega
      rw [h, hln] at hnf
      exact hnf.symm
    · intro h
      rw [h, ← hln, f1]; omega
theorem gI3_eq (hok : gOk P (s_last P.n a P.dir) true (P.n - 2).toNat) (ha : 0 ≤ a) (ha2 : a < P.n) : s_gI3 P.n a s s2 = mG P (s_last P.n a P.dir) true (s_x0 P.dir s s2) (s_x1 P.dir s s2) 0 := by
  have hn := hok.1
  have hr := rem_lt (a + 1) (show 0 < P.n by omega)
  have h1 := rem1 (n := P.n) (by omega) ha ha2
  apply List.ext_getElem (by simp [s_gI3, mG])
  intro i q1 q2
  have hi : (i : Int) < P.n := by simp [s_gI3] at q1; omega
  obtain ⟨f0, f1⟩ := g2_far hok ha ha2 (i := (i : Int)) (by omega) hi
  simp only [s_gI3, mG, List.getElem_set, List.getElem_replicate, List.getElem_map, List.getElem_range]
  unfold gIs gSide
  by_cases hd : P.dir = 1
  · have el : s_last P.n a P.dir = s_rem (a + 1) P.n := by unfold s_last; rw [if_pos hd]
    rw [if_pos hd] at f1
    unfold s_x0 s_x1
    rw [if_pos hd, if_pos hd]
    by_cases hb : (s_rem (a + 1) P.n).toNat = i
    · have e0 := f0.2 (by rw [el]; omega)
      rw [if_pos hb, e0]
      simp
    · rw [if_neg hb]
      have e0 : ¬ (s_far P.n (s_last P.n a P.dir) P.dir i).toNat = 0 := fun h => hb (by have := f0.1 h; rw [el] at this; omega)
      by_cases hA : a.toNat = i
      · have e1 := f1.2 (by omega)
        rw [if_pos hA, decide_eq_true e1]
        simp [e0, e1]
      · rw [if_neg hA]
        have e1 : ¬ (((s_far P.n (s_last P.n a P.dir) P.dir i).toNat : Nat) : Int) = P.n - 1 := fun h => hA (by have := f1.1 h; omega)
        rw [decide_eq_false e1, decide_eq_false (by omega)]
        simp
  · have el : s_last P.n a P.dir = a := by unfold s_last; rw [if_neg hd]
    rw [if_neg hd] at f1
    unfold s_x0 s_x1
    rw [if_neg hd, if_neg hd]
    by_cases hb : (s_rem (a + 1) P.n).toNat = i
    · have e1 := f1.2 (by omega)
      have e0 : ¬ (s_far P.n (s_last P.n a P.dir) P.dir i).toNat = 0 := fun h => by
        have := f0.1 h
        rw [el] at this
        split at h1 <;> omega
      rw [if_pos hb, decide_eq_true e1]
      simp [e0, e1]
    · rw [if_neg hb]
      have e1 : ¬ (((s_far P.n (s_last P.n a P.dir) P.dir i).toNat : Nat) : Int) = P.n - 1 := fun h => hb (by have := f1.1 h; omega)
      by_cases hA : a.toNat = i
      · have e0 := f0.2 (by rw [el]; omega)
        rw [if_pos hA, e0]
        simp
      · rw [if_neg hA]
        have e0 : ¬ (s_far P.n (s_last P.n a P.dir) P.dir i).toNat = 0 := fun h => hA (by have := f0.1 h; rw [el] at this; omega)
        rw [decide_eq_false e1, decide_eq_false (by omega)]
        simp
theorem gI4_eq (hok : gOk P (s_last P.n a P.dir) true (P.n - 2).toNat) (ha : 0 ≤ a) (ha2 : a < P.n) : s_gI4 P.n a = mGd P (s_last P.n a P.dir) true 0 := by
  have hn := hok.1
  have hr := rem_lt (a + 1) (show 0 < P.n by omega)
  apply List.ext_getElem (by simp [s_gI4, mGd])
  intro i q1 q2
  have hi : (i : Int) < P.n := by simp [s_gI4] at q1; omega
  obtain ⟨f0, f1⟩ := g2_far hok ha ha2 (i := (i : Int)) (by omega) hi
  simp only [s_gI4, mGd, List.getElem_set, List.getElem_replicate, List.getElem_map, List.getElem_range]
  unfold gIs
  by_cases hd : P.dir = 1
  · have el : s_last P.n a P.dir = s_rem (a + 1) P.n := by unfold s_last; rw [if_pos hd]
    rw [if_pos hd] at f1
    by_cases hb : (s_rem (a + 1) P.n).toNat = i
    · have e0 := f0.2 (by rw [el]; omega)
      rw [if_pos hb, e0]
      simp
    · rw [if_neg hb]
      have e0 : ¬ (s_far P.n (s_last P.n a P.dir) P.dir i).toNat = 0 := fun h => hb (by have := f0.1 h; rw [el] at this; omega)
      by_cases hA : a.toNat = i
      · have e1 := f1.2 (by omega)
        rw [if_pos hA, decide_eq_true e1]
        simp
      · rw [if_neg hA]
        have e1 : ¬ (((s_far P.n (s_last P.n a P.dir) P.dir i).toNat : Nat) : Int) = P.n - 1 := fun h => hA (by have := f1.1 h; omega)
        rw [decide_eq_false e1, decide_eq_false (by omega)]
        simp
  · have el : s_last P.n a P.dir = a := by unfold s_last; rw [if_neg hd]
    rw [if_neg hd] at f1
    by_cases hb : (s_rem (a + 1) P.n).toNat = i
    · have e1 := f1.2 (by omega)
      rw [if_pos hb, decide_eq_true e1]
      simp
    · rw [if_neg hb]
      have e1 : ¬ (((s_far P.n (s_last P.n a P.dir) P.dir i).toNat : Nat) : Int) = P.n - 1 := fun h => hb (by have := f1.1 h; omega)
      by_cases hA : a.toNat = i
      · have e0 := f0.2 (by rw [el]; omega)
        rw [if_pos hA, e0]
        simp
      · rw [if_neg hA]
        have e0 : ¬ (s_far P.n (s_last P.n a P.dir) P.dir i).toNat = 0 := fun h => hA (by have := f0.1 h; rw [el] at this; omega)
        rw [decide_eq_false e1, decide_eq_false (by omega)]
        simp
end
theorem run_two {n dir sl pi a : Int} {sts dvs : List (List AV)} {em : Int → Int → ByteArray → ByteArray} {s s2 : ByteArray} {rows : List (List AV)} (hn : 6 ≤ n) (hn2 : n ≤ 12) (hd : dir = 1 ∨ dir = -1) (ha : 0 ≤ a ∧ a < n)
    (hS : ∀ i, 0 ≤ i → i < n → s_int sts i = 4) (hD : ∀ i, 0 ≤ i → i < n → -(2 * pi) ≤ s_int dvs i ∧ s_int dvs i ≤ 2 * pi)
    (hr : rows = s_gIterS ⟨n, dir, sl, pi, s_wayL n (s_last n a dir) dir (n - 2).toNat, sts, dvs, em⟩ (s_gI3 n a s s2) (s_gI4 n a) 0 (n - 2).toNat) :
    ∃ P : RG, P.n = n ∧ P.dir = dir ∧ P.sl = sl ∧ P.em = em ∧ gOk P (s_last n a dir) true (n - 2).toNat ∧ (∀ k, gN P (s_last n a dir) k = s_node n (s_last n a dir) dir k) ∧ (∀ k, s_int P.sts (gN P (s_last n a dir) k) ≠ 0) ∧ (∀ x, gGrd P (s_last n a dir) x = x) ∧ rows.length = n.toNat ∧
      ∀ i : Int, 0 ≤ i → i < n → rows.getD i.toNat [] = gSide P (s_last n a dir) true (s_x0 dir s s2) (s_x1 dir s s2) (s_far n (s_last n a dir) dir i).toNat := by
  obtain ⟨P, hP⟩ : ∃ P : RG, P = ⟨n, dir, sl, pi, s_wayL n (s_last n a dir) dir (n - 2).toNat, sts, dvs, em⟩ := ⟨_, rfl⟩
  have hl := last_lt (n := n) (dir := dir) (by omega) ha.1 ha.2
  have hok : gOk P (s_last n a dir) true (n - 2).toNat := by
    rw [hP]
    exact ⟨hn, hn2, hd, hl.1, hl.2, rfl, by show (((n - 2).toNat : Nat) : Int) < n; omega, fun _ => by show (((n - 2).toNat : Nat) : Int) + 1 < n; omega⟩
  have Pn : P.n = n := by rw [hP]
  have Pd : P.dir = dir := by rw [hP]
  have hN : ∀ k, gN P (s_last n a dir) k = s_node n (s_last n a dir) dir k := fun k => by show s_node P.n _ P.dir k = _; rw [Pn, Pd]
  have hok' : gOk P (s_last P.n a P.dir) true (P.n - 2).toNat := by rw [Pn, Pd]; exact hok
  have hI1 : s_gI3 n a s s2 = mG P (s_last n a dir) true (s_x0 dir s s2) (s_x1 dir s s2) 0 := by
    have := gI3_eq (s := s) (s2 := s2) hok' ha.1 (by rw [Pn]; exact ha.2)
    rw [Pn, Pd] at this
    exact this
  have hI2 : s_gI4 n a = mGd P (s_last n a dir) true 0 := by
    have := gI4_eq hok' ha.1 (by rw [Pn]; exact ha.2)
    rw [Pn, Pd] at this
    exact this
  rw [← hP] at hr
  refine ⟨P, Pn, Pd, by rw [hP], by rw [hP], hok, hN, fun k => ?_, fun x => ?_, ?_, fun i i0 i1 => ?_⟩
  · have hl := g_lt hok k
    have : s_int P.sts (gN P (s_last n a dir) k) = 4 := by
      rw [show P.sts = sts by rw [hP]]
      exact hS _ hl.1 (by omega)
    omega
  · have hl := g_lt hok 1
    unfold gGrd
    refine guard_in ?_
    rw [show P.dvs = dvs by rw [hP], show P.pi = pi by rw [hP]]
    exact hD _ hl.1 (by omega)
  · rw [hr, g_len (d1 := s_gI4 n a) hok hI1, Pn]
  · have hf := far_lt (n := n) (o := s_last n a dir) (dir := dir) (by omega) i
    have := g_get hok hI1 hI2 (m := (s_far n (s_last n a dir) dir i).toNat) (by
      by_cases h : (s_far n (s_last n a dir) dir i).toNat ≤ (n - 2).toNat
      · exact .inl h
      · exact .inr ⟨rfl, by omega⟩)
    rw [hN, node_far hd hl.1 hl.2 i0 i1] at this
    rw [hr, this]
section
variable {P : RG} {o : Int} {two : Bool} {M : Nat} {hit : Int → Int → Bool} {fr to_ ro at_ : Int}
theorem out_nil (c : Bool) (s : ByteArray) : s_out c (⟨#[]⟩ : ByteArray) s = ⟨#[]⟩ := front_empty (front_out ..)
theorem guard_nil (pi st dv : Int) : s_guard pi st dv (⟨#[]⟩ : ByteArray) = ⟨#[]⟩ := front_empty (guard_front ..)
/-- Where nothing is sent nothing leaves a node but the locus. -/
theorem babble (hok : gOk P o two M) (hE : gEm P hit fr to_ ro) (hh : ∀ i j : Nat, gN P o i ≠ at_ → hit (gN P o i) (gN P o j) = false) (h0 : gN P o 0 ≠ at_) :
    ∀ k : Nat, k ≤ M → gN P o k ≠ at_ → (gO P o two ⟨#[]⟩ ⟨#[]⟩ k).1 = ⟨#[]⟩ := by
  have hO := gO_size (a := ⟨#[]⟩) (b := ⟨#[]⟩) (two := two) hok hE (Nat.zero_le _) (Nat.zero_le _)
  have hn := hok.1
  have main : ∀ k : Nat, k ≤ M → (gN P o k ≠ at_ → (gO P o two ⟨#[]⟩ ⟨#[]⟩ k).1 = ⟨#[]⟩) ∧ (0 < k → gN P o (k - 1) ≠ at_ → (gO P o two ⟨#[]⟩ ⟨#[]⟩ k).2 = ⟨#[]⟩) := by
    intro k
    induction k with
    | zero => intro _; exact ⟨fun _ => rfl, fun h => by omega⟩
    | succ k ih =>
      intro hk
      have hM := hok.2.2.2.2.2.2.1
      have ih := ih (by omega)
      refine ⟨fun hne => ?_, fun _ hne => by rw [Nat.add_sub_cancel] at hne; exact ih.1 hne⟩
      show gOutX P o two (gO P o two ⟨#[]⟩ ⟨#[]⟩ k).1 (gO P o two ⟨#[]⟩ ⟨#[]⟩ k).2 k = ⟨#[]⟩
      have dnil : gDirX P o (gO P o two ⟨#[]⟩ ⟨#[]⟩ k).1 k = ⟨#[]⟩ → gOutX P o two (gO P o two ⟨#[]⟩ ⟨#[]⟩ k).1 (gO P o two ⟨#[]⟩ ⟨#[]⟩ k).2 k = ⟨#[]⟩ := fun hd => by
        unfold gOutX
        rw [hd]
        split
        · rfl
        · exact out_nil _ _
      by_cases k0 : k = 0
      · subst k0
        refine dnil ?_
        unfold gDirX
        rw [if_pos rfl]
        show gGrd P o (gC P o ⟨#[]⟩ 0 1) = _
        rw [gC_pass hok hE (Nat.zero_le _) (.inl (hh 0 1 h0))]
        exact guard_nil ..
      · by_cases ha : gN P o k = at_
        · have hp : gN P o (k - 1) ≠ at_ := fun e => gN_ne hok (i := k - 1) (j := k) (by omega) (by omega) (by omega) (e.trans ha.symm)
          unfold gOutX
          split
          · rfl
          · have hsk : gSkipX P o two (gO P o two ⟨#[]⟩ ⟨#[]⟩ k).2 k = ⟨#[]⟩ := by
              unfold gSkipX
              rw [if_neg k0, ih.2 (by omega) hp, gC_pass hok hE (Nat.zero_le _) (.inl (hh (k - 1) (k + 1) hp))]
              rfl
            rw [hsk, show (decide (0 < k) || decide (P.n ≤ P.sl)) = true by rw [decide_eq_true (by omega)]; rfl, out_com (gDir_cl _ _)]
            exact front_empty (front_com2 _ _)
        · refine dnil ?_
          unfold gDirX
          rw [if_neg k0, ih.1 ha, gC_pass hok hE (Nat.zero_le _) (.inl (hh k (k + 1) ha))]
          rfl
  exact fun k hk h => (main k hk).1 h
end
end Go.Proofs.YtiemjcchlfbglaaE
/- SpreadBabble: its loops' specs. -/
namespace Go.Proofs.YtiemjcchlfbglaaE
open Go
set_option linter.unusedVariables false

def sOwnDX : SW := fun args h Q => match args, h with
  | [.agg [.int .i64 n, .int .i64 pi, .int .i64 e, .int .i64 g, .int .i64 fi, .row nl [.int .i64] ps], .int .i64 slot], [] => Hyp (6 ≤ n ∧ n ≤ 12 ∧ ps.length ≤ 3 ∧ 0 ≤ slot ∧ slot < n + ps.length ∧ (n ≤ slot → -1 ≤ s_pair ps (slot - n) ∧ s_pair ps (slot - n) < n)) ∧
      ((slot < n → Q (.row false [.int .i64] [[.int .i64 slot]], [])) ∧ (n ≤ slot → s_pair ps (slot - n) = -1 → Q (.row true [.int .i64] [], [])) ∧ ∀ p : Int, n ≤ slot → p = s_pair ps (slot - n) → 0 ≤ p → Q (.row false [.int .i64] [[.int .i64 p], [.int .i64 (s_rem (p + 1) n)]], []))
  | _, _ => False
def s_outB (rows : List (List AV)) (i : Int) : ByteArray := s_out2 (rows.getD i.toNat [])
def lBi : LW := fun vals h Q => match vals, h with
  | [.ptr 0 0, .int .i64 s, .row nw [.str, .str, .str, .int .i64] rows, .int .i64 i], [.box [.int .i64 n, .int .i64 pi, .int .i64 e, .int .i64 g, .int .i64 fi, .row nl [.int .i64] ps, .int .i64 fk, .int .i64 fa, .int .i64 ff, .int .i64 ft, .row nl3 [.int .i64, .int .i64, .str] acts, .row nl4 [.int .i64] ds, .int .i64 ro, .int .i64 sl, .int .i64 dir, .sl 1 0 ms, .sl 2 0 m1, .sl 3 0 m2], .arr 0 9 [.str] ss, .arr 0 3 [.int .i64] sts, .arr 0 3 [.int .i64] dvs] => Hyp (0 ≤ i ∧ i ≤ rows.length ∧ rows.length ≤ 12 ∧ ∀ j : Int, 0 ≤ j → j < rows.length → j ≠ fa → s_outB rows j = ⟨#[]⟩) ∧ Q (.exit 2) [.ptr 0 0, .int .i64 s, .row nw [.str, .str, .str, .int .i64] rows] [.box [.int .i64 n, .int .i64 pi, .int .i64 e, .int .i64 g, .int .i64 fi, .row nl [.int .i64] ps, .int .i64 fk, .int .i64 fa, .int .i64 ff, .int .i64 ft, .row nl3 [.int .i64, .int .i64, .str] acts, .row nl4 [.int .i64] ds, .int .i64 ro, .int .i64 sl, .int .i64 dir, .sl 1 0 ms, .sl 2 0 m1, .sl 3 0 m2], .arr 0 9 [.str] ss, .arr 0 3 [.int .i64] sts, .arr 0 3 [.int .i64] dvs]
  | _, _ => False
def lBo : LW := fun vals h Q => match vals, h with
  | [.ptr 0 0, .int .i64 s], [.box [.int .i64 n, .int .i64 pi, .int .i64 e, .int .i64 g, .int .i64 fi, .row nl [.int .i64] ps, .int .i64 fk, .int .i64 fa, .int .i64 ff, .int .i64 ft, .row nl3 [.int .i64, .int .i64, .str] acts, .row nl4 [.int .i64] ds, .int .i64 ro, .int .i64 sl, .int .i64 dir, .sl 1 0 ms, .sl 2 0 m1, .sl 3 0 m2], .arr 2 9 [.str] ss, .arr 2 3 [.int .i64] sts, .arr 2 3 [.int .i64] dvs] => Hyp (0 ≤ s ∧ s ≤ n + ps.length ∧ s_confOk n pi e g fi (ints ps) = true ∧ s_actsB acts ∧ fk = 1 ∧ 0 ≤ fa ∧ fa < n ∧ 0 ≤ ro ∧ ro ≤ 900 ∧ (dir = 1 ∨ dir = -1) ∧ (m1 : Int) = n ∧ (m2 : Int) = n ∧ sts = s_rep m1 4 ∧ dvs = s_rep m2 0) ∧ Q (.exit 0) [] []
  | [.ptr 0 0, .int .i64 s], [.box [.int .i64 n, .int .i64 pi, .int .i64 e, .int .i64 g, .int .i64 fi, .row nl [.int .i64] ps, .int .i64 fk, .int .i64 fa, .int .i64 ff, .int .i64 ft, .row nl3 [.int .i64, .int .i64, .str] acts, .row nl4 [.int .i64] ds, .int .i64 ro, .int .i64 sl, .int .i64 dir, .sl 1 0 ms, .sl 2 0 m1, .sl 3 0 m2], .arr 0 9 [.str] ss, .arr 0 3 [.int .i64] sts, .arr 0 3 [.int .i64] dvs] => Hyp (0 ≤ s ∧ s ≤ n + ps.length ∧ s_confOk n pi e g fi (ints ps) = true ∧ s_actsB acts ∧ fk = 1 ∧ 0 ≤ fa ∧ fa < n ∧ 0 ≤ ro ∧ ro ≤ 900 ∧ (dir = 1 ∨ dir = -1) ∧ (m1 : Int) = n ∧ (m2 : Int) = n ∧ sts = s_rep m1 4 ∧ dvs = s_rep m2 0) ∧ Q (.exit 0) [] []
  | _, _ => False
def B0 : Sp := ⟨(24, sOwnDX) :: Y3.fn, []⟩
def B1 : Sp := ⟨B0.fn, [(8, 21, lBi)]⟩
def B2 : Sp := ⟨B0.fn, [(8, 14, lBo), (8, 21, lBi)]⟩
end Go.Proofs.YtiemjcchlfbglaaE
/- What path mode says of functions, printed by a program of this session; the kernel holds each. -/
namespace Go.Proofs.YtiemjcchlfbglaaE
open Go
set_option maxRecDepth 100000
set_option linter.unusedVariables false
theorem nfBi (s n pi e g fi fk fa ff ft ro sl dir : Int) (nl nl3 nl4 : Bool) (ps acts ds ss sts dvs : List (List AV)) (ms m1 m2 : Nat) (i : Int) (nw : Bool) (rows : List (List AV)) (Q : Ex → List AV → List AObj → Prop) : lpBody Try.prog H0 B0 6 6 8 21 [.ptr 0 0, .int .i64 s, .row nw [.str, .str, .str, .int .i64] rows, .int .i64 i] [.box [.int .i64 n, .int .i64 pi, .int .i64 e, .int .i64 g, .int .i64 fi, .row nl [.int .i64] ps, .int .i64 fk, .int .i64 fa, .int .i64 ff, .int .i64 ft, .row nl3 [.int .i64, .int .i64, .str] acts, .row nl4 [.int .i64] ds, .int .i64 ro, .int .i64 sl, .int .i64 dir, .sl 1 0 ms, .sl 2 0 m1, .sl 3 0 m2], .arr 0 9 [.str] ss, .arr 0 3 [.int .i64] sts, .arr 0 3 [.int .i64] dvs] Q = (
br (decide (i < (↑rows.length : Int)))
 (br (i != fa)
  (chk ((0 : Int) ≤ i ∧ i < (↑rows.length : Int)) (br (!((rows.getD i.toNat []).getD (2 : Nat) AV.gone).toS.toList == (ByteArray.mk #[]).toList)
   (Q (Ex.ret) ([AV.bool false]) ([]))
   (Q (Ex.nrm) ([AV.ptr (0 : Nat) (0 : Nat), AV.int IntKind.i64 s, AV.row nw [K.str, K.str, K.str, K.int IntKind.i64] rows,
  AV.int IntKind.i64 (IntKind.i64.wrap (i + (1 : Int)))]) ([AObj.box
    [AV.int IntKind.i64 n, AV.int IntKind.i64 pi, AV.int IntKind.i64 e, AV.int IntKind.i64 g, AV.int IntKind.i64 fi,
      AV.row nl [K.int IntKind.i64] ps, AV.int IntKind.i64 fk, AV.int IntKind.i64 fa, AV.int IntKind.i64 ff,
      AV.int IntKind.i64 ft, AV.row nl3 [K.int IntKind.i64, K.int IntKind.i64, K.str] acts,
      AV.row nl4 [K.int IntKind.i64] ds, AV.int IntKind.i64 ro, AV.int IntKind.i64 sl, AV.int IntKind.i64 dir,
      AV.sl (1 : Nat) (0 : Nat) ms, AV.sl (2 : Nat) (0 : Nat) m1, AV.sl (3 : Nat) (0 : Nat) m2],
  AObj.arr (0 : Nat) (9 : Nat) [K.str] ss, AObj.arr (0 : Nat) (3 : Nat) [K.int IntKind.i64] sts,
  AObj.arr (0 : Nat) (3 : Nat) [K.int IntKind.i64] dvs]))))
  (Q (Ex.nrm) ([AV.ptr (0 : Nat) (0 : Nat), AV.int IntKind.i64 s, AV.row nw [K.str, K.str, K.str, K.int IntKind.i64] rows,
  AV.int IntKind.i64 (IntKind.i64.wrap (i + (1 : Int)))]) ([AObj.box
    [AV.int IntKind.i64 n, AV.int IntKind.i64 pi, AV.int IntKind.i64 e, AV.int IntKind.i64 g, AV.int IntKind.i64 fi,
      AV.row nl [K.int IntKind.i64] ps, AV.int IntKind.i64 fk, AV.int IntKind.i64 fa, AV.int IntKind.i64 ff,
      AV.int IntKind.i64 ft, AV.row nl3 [K.int IntKind.i64, K.int IntKind.i64, K.str] acts,
      AV.row nl4 [K.int IntKind.i64] ds, AV.int IntKind.i64 ro, AV.int IntKind.i64 sl, AV.int IntKind.i64 dir,
      AV.sl (1 : Nat) (0 : Nat) ms, AV.sl (2 : Nat) (0 : Nat) m1, AV.sl (3 : Nat) (0 : Nat) m2],
  AObj.arr (0 : Nat) (9 : Nat) [K.str] ss, AObj.arr (0 : Nat) (3 : Nat) [K.int IntKind.i64] sts,
  AObj.arr (0 : Nat) (3 : Nat) [K.int IntKind.i64] dvs])))
 (Q (Ex.exit (2 : Nat)) ([AV.ptr (0 : Nat) (0 : Nat), AV.int IntKind.i64 s, AV.row nw [K.str, K.str, K.str, K.int IntKind.i64] rows]) ([AObj.box
    [AV.int IntKind.i64 n, AV.int IntKind.i64 pi, AV.int IntKind.i64 e, AV.int IntKind.i64 g, AV.int IntKind.i64 fi,
      AV.row nl [K.int IntKind.i64] ps, AV.int IntKind.i64 fk, AV.int IntKind.i64 fa, AV.int IntKind.i64 ff,
      AV.int IntKind.i64 ft, AV.row nl3 [K.int IntKind.i64, K.int IntKind.i64, K.str] acts,
      AV.row nl4 [K.int IntKind.i64] ds, AV.int IntKind.i64 ro, AV.int IntKind.i64 sl, AV.int IntKind.i64 dir,
      AV.sl (1 : Nat) (0 : Nat) ms, AV.sl (2 : Nat) (0 : Nat) m1, AV.sl (3 : Nat) (0 : Nat) m2],
  AObj.arr (0 : Nat) (9 : Nat) [K.str] ss, AObj.arr (0 : Nat) (3 : Nat) [K.int IntKind.i64] sts,
  AObj.arr (0 : Nat) (3 : Nat) [K.int IntKind.i64] dvs]))) := by kernel_rfl
theorem nfBo2 (s n pi e g fi fk fa ff ft ro sl dir : Int) (nl nl3 nl4 : Bool) (ps acts ds ss sts dvs : List (List AV)) (ms m1 m2 : Nat) (Q : Ex → List AV → List AObj → Prop) : lpBody Try.prog H0 B1 6 6 8 14 [.ptr 0 0, .int .i64 s] [.box [.int .i64 n, .int .i64 pi, .int .i64 e, .int .i64 g, .int .i64 fi, .row nl [.int .i64] ps, .int .i64 fk, .int .i64 fa, .int .i64 ff, .int .i64 ft, .row nl3 [.int .i64, .int .i64, .str] acts, .row nl4 [.int .i64] ds, .int .i64 ro, .int .i64 sl, .int .i64 dir, .sl 1 0 ms, .sl 2 0 m1, .sl 3 0 m2], .arr 2 9 [.str] ss, .arr 2 3 [.int .i64] sts, .arr 2 3 [.int .i64] dvs] Q = (
br (decide (s < IntKind.i64.wrap (n + (↑ps.length : Int))))
 (((Hyp ((6 : Int) ≤ n ∧
  n ≤ (12 : Int) ∧
    ps.length ≤ (3 : Nat) ∧
      (0 : Int) ≤ s ∧ s < n + (↑ps.length : Int) ∧ (n ≤ s → (-1 : Int) ≤ s_pair ps (s - n) ∧ s_pair ps (s - n) < n))) ∧
 (((((s < n) →
 br (s == fa)
  (Q (Ex.nrm) ([AV.ptr (0 : Nat) (0 : Nat), AV.int IntKind.i64 (IntKind.i64.wrap (s + (1 : Int)))]) ([AObj.box
    [AV.int IntKind.i64 n, AV.int IntKind.i64 pi, AV.int IntKind.i64 e, AV.int IntKind.i64 g, AV.int IntKind.i64 fi,
      AV.row nl [K.int IntKind.i64] ps, AV.int IntKind.i64 fk, AV.int IntKind.i64 fa, AV.int IntKind.i64 ff,
      AV.int IntKind.i64 ft, AV.row nl3 [K.int IntKind.i64, K.int IntKind.i64, K.str] acts,
      AV.row nl4 [K.int IntKind.i64] ds, AV.int IntKind.i64 ro, AV.int IntKind.i64 sl, AV.int IntKind.i64 dir,
      AV.sl (1 : Nat) (0 : Nat) ms, AV.sl (2 : Nat) (0 : Nat) m1, AV.sl (3 : Nat) (0 : Nat) m2],
  AObj.arr (2 : Nat) (9 : Nat) [K.str] ss, AObj.arr (2 : Nat) (3 : Nat) [K.int IntKind.i64] sts,
  AObj.arr (2 : Nat) (3 : Nat) [K.int IntKind.i64] dvs]))
  (chk ((0 : Nat) + m1 ≤ sts.length) (chk ((0 : Nat) + m2 ≤ dvs.length) (((Hyp (s_confOk n pi e g fi (List.map (fun r => (r.getD (0 : Nat) AV.gone).toI) ps) = true ∧
  s_actsB acts ∧
    (0 : Int) ≤ ro ∧
      ro ≤ (1000000 : Int) ∧
        (0 : Int) ≤ s ∧
          s ≤ (1000000 : Int) ∧
            (dir = (1 : Int) ∨ dir = (-1 : Int)) ∧
              (↑(List.take m1 (List.drop (0 : Nat) sts)).length : Int) = n ∧
                (↑(List.take m2 (List.drop (0 : Nat) dvs)).length : Int) = n ∧ s < n ∧ (0 : Nat) ≤ (1000000 : Nat))) ∧
  ((∀ (em108 : Int → Int → ByteArray → ByteArray),
  ((∀ (fm dst : Int) (base : ByteArray),
  (0 : Int) ≤ dst →
    dst ≤ (1000000 : Int) →
      base.size ≤ (1000000 : Nat) → s_emitR (s_hit n fk fa fm dst) ff ft ro base (em108 fm dst base)) →
  (∀ (rows110 : List (List AV)),
  ((rows110 =
  s_gIterS
    { n := n, dir := dir, sl := s, pi := pi, way := s_wayL n s dir (n - (1 : Int)).toNat,
      sts := List.take m1 (List.drop (0 : Nat) sts), dvs := List.take m2 (List.drop (0 : Nat) dvs), em := em108 }
    (s_gI1 n s (ByteArray.mk #[])) (s_gI2 n s) (0 : Nat) (n - (1 : Int)).toNat) →
  ((Hyp ((0 : Int) ≤ (0 : Int) ∧
  (0 : Int) ≤ (↑rows110.length : Int) ∧
    rows110.length ≤ (12 : Nat) ∧
      ∀ (j : Int), (0 : Int) ≤ j → j < (↑rows110.length : Int) → j ≠ fa → s_outB rows110 j = (ByteArray.mk #[]))) ∧
  (br ((↑rows110.length : Int) != n)
   (Q (Ex.ret) ([AV.bool false]) ([]))
   (Q (Ex.nrm) ([AV.ptr (0 : Nat) (0 : Nat), AV.int IntKind.i64 (IntKind.i64.wrap (s + (1 : Int)))]) ([AObj.box
    [AV.int IntKind.i64 n, AV.int IntKind.i64 pi, AV.int IntKind.i64 e, AV.int IntKind.i64 g, AV.int IntKind.i64 fi,
      AV.row nl [K.int IntKind.i64] ps, AV.int IntKind.i64 fk, AV.int IntKind.i64 fa, AV.int IntKind.i64 ff,
      AV.int IntKind.i64 ft, AV.row nl3 [K.int IntKind.i64, K.int IntKind.i64, K.str] acts,
      AV.row nl4 [K.int IntKind.i64] ds, AV.int IntKind.i64 ro, AV.int IntKind.i64 s, AV.int IntKind.i64 dir,
      AV.sl (1 : Nat) (0 : Nat) (↑(1 : Nat) : Int).toNat, AV.sl (2 : Nat) (0 : Nat) m1, AV.sl (3 : Nat) (0 : Nat) m2],
  AObj.arr (0 : Nat) (9 : Nat) [K.str] [[AV.str (ByteArray.mk #[])]], AObj.arr (0 : Nat) (3 : Nat) [K.int IntKind.i64] sts,
  AObj.arr (0 : Nat) (3 : Nat) [K.int IntKind.i64] dvs]))))))))))))))) ∧
 (((((n ≤ s) →
 ((s_pair ps (s - n) = (-1 : Int)) →
 chk ((0 : Nat) + m1 ≤ sts.length) (chk ((0 : Nat) + m2 ≤ dvs.length) (((Hyp (s_confOk n pi e g fi (List.map (fun r => (r.getD (0 : Nat) AV.gone).toI) ps) = true ∧
  s_actsB acts ∧
    (0 : Int) ≤ ro ∧
      ro ≤ (1000000 : Int) ∧
        (0 : Int) ≤ s ∧
          s ≤ (1000000 : Int) ∧
            (dir = (1 : Int) ∨ dir = (-1 : Int)) ∧
              (↑(List.take m1 (List.drop (0 : Nat) sts)).length : Int) = n ∧
                (↑(List.take m2 (List.drop (0 : Nat) dvs)).length : Int) = n ∧
                  n ≤ s ∧ s < n + (↑ps.length : Int) ∧ s_pair ps (s - n) = (-1 : Int))) ∧
 (((Hyp ((0 : Int) ≤ (0 : Int) ∧
  (0 : Int) ≤
      (↑(List.replicate n.toNat
              [AV.str (ByteArray.mk #[]), AV.str (ByteArray.mk #[]), AV.str (ByteArray.mk #[]),
                AV.int IntKind.i64 (0 : Int)]).length :
        Int) ∧
    (List.replicate n.toNat
            [AV.str (ByteArray.mk #[]), AV.str (ByteArray.mk #[]), AV.str (ByteArray.mk #[]),
              AV.int IntKind.i64 (0 : Int)]).length ≤
        (12 : Nat) ∧
      ∀ (j : Int),
        (0 : Int) ≤ j →
          j < (↑(List.replicate n.toNat zeroS).length : Int) →
            j ≠ fa → s_outB (List.replicate n.toNat zeroS) j = (ByteArray.mk #[]))) ∧
 (br ((↑(List.replicate n.toNat
          [AV.str (ByteArray.mk #[]), AV.str (ByteArray.mk #[]), AV.str (ByteArray.mk #[]),
            AV.int IntKind.i64 (0 : Int)]).length :
    Int) !=
  n)
  (Q (Ex.ret) ([AV.bool false]) ([]))
  (Q (Ex.nrm) ([AV.ptr (0 : Nat) (0 : Nat), AV.int IntKind.i64 (IntKind.i64.wrap (s + (1 : Int)))]) ([AObj.box
    [AV.int IntKind.i64 n, AV.int IntKind.i64 pi, AV.int IntKind.i64 e, AV.int IntKind.i64 g, AV.int IntKind.i64 fi,
      AV.row nl [K.int IntKind.i64] ps, AV.int IntKind.i64 fk, AV.int IntKind.i64 fa, AV.int IntKind.i64 ff,
      AV.int IntKind.i64 ft, AV.row nl3 [K.int IntKind.i64, K.int IntKind.i64, K.str] acts,
      AV.row nl4 [K.int IntKind.i64] ds, AV.int IntKind.i64 ro, AV.int IntKind.i64 s, AV.int IntKind.i64 dir,
      AV.sl (1 : Nat) (0 : Nat) (0 : Nat), AV.sl (2 : Nat) (0 : Nat) m1, AV.sl (3 : Nat) (0 : Nat) m2],
  AObj.arr (0 : Nat) (9 : Nat) [K.str] [], AObj.arr (0 : Nat) (3 : Nat) [K.int IntKind.i64] sts,
  AObj.arr (0 : Nat) (3 : Nat) [K.int IntKind.i64] dvs]))))))))))) ∧
 ((∀ (p104 : Int),
 ((n ≤ s) →
 ((p104 = s_pair ps (s - n)) →
 (((0 : Int) ≤ p104) →
 br (p104 == fa)
  (Q (Ex.nrm) ([AV.ptr (0 : Nat) (0 : Nat), AV.int IntKind.i64 (IntKind.i64.wrap (s + (1 : Int)))]) ([AObj.box
    [AV.int IntKind.i64 n, AV.int IntKind.i64 pi, AV.int IntKind.i64 e, AV.int IntKind.i64 g, AV.int IntKind.i64 fi,
      AV.row nl [K.int IntKind.i64] ps, AV.int IntKind.i64 fk, AV.int IntKind.i64 fa, AV.int IntKind.i64 ff,
      AV.int IntKind.i64 ft, AV.row nl3 [K.int IntKind.i64, K.int IntKind.i64, K.str] acts,
      AV.row nl4 [K.int IntKind.i64] ds, AV.int IntKind.i64 ro, AV.int IntKind.i64 sl, AV.int IntKind.i64 dir,
      AV.sl (1 : Nat) (0 : Nat) ms, AV.sl (2 : Nat) (0 : Nat) m1, AV.sl (3 : Nat) (0 : Nat) m2],
  AObj.arr (2 : Nat) (9 : Nat) [K.str] ss, AObj.arr (2 : Nat) (3 : Nat) [K.int IntKind.i64] sts,
  AObj.arr (2 : Nat) (3 : Nat) [K.int IntKind.i64] dvs]))
  (br (s_rem (p104 + (1 : Int)) n == fa)
   (Q (Ex.nrm) ([AV.ptr (0 : Nat) (0 : Nat), AV.int IntKind.i64 (IntKind.i64.wrap (s + (1 : Int)))]) ([AObj.box
    [AV.int IntKind.i64 n, AV.int IntKind.i64 pi, AV.int IntKind.i64 e, AV.int IntKind.i64 g, AV.int IntKind.i64 fi,
      AV.row nl [K.int IntKind.i64] ps, AV.int IntKind.i64 fk, AV.int IntKind.i64 fa, AV.int IntKind.i64 ff,
      AV.int IntKind.i64 ft, AV.row nl3 [K.int IntKind.i64, K.int IntKind.i64, K.str] acts,
      AV.row nl4 [K.int IntKind.i64] ds, AV.int IntKind.i64 ro, AV.int IntKind.i64 sl, AV.int IntKind.i64 dir,
      AV.sl (1 : Nat) (0 : Nat) ms, AV.sl (2 : Nat) (0 : Nat) m1, AV.sl (3 : Nat) (0 : Nat) m2],
  AObj.arr (2 : Nat) (9 : Nat) [K.str] ss, AObj.arr (2 : Nat) (3 : Nat) [K.int IntKind.i64] sts,
  AObj.arr (2 : Nat) (3 : Nat) [K.int IntKind.i64] dvs]))
   (chk ((0 : Nat) + m1 ≤ sts.length) (chk ((0 : Nat) + m2 ≤ dvs.length) (((Hyp (s_confOk n pi e g fi (List.map (fun r => (r.getD (0 : Nat) AV.gone).toI) ps) = true ∧
  s_actsB acts ∧
    (0 : Int) ≤ ro ∧
      ro ≤ (1000000 : Int) ∧
        (0 : Int) ≤ s ∧
          s ≤ (1000000 : Int) ∧
            (dir = (1 : Int) ∨ dir = (-1 : Int)) ∧
              (↑(List.take m1 (List.drop (0 : Nat) sts)).length : Int) = n ∧
                (↑(List.take m2 (List.drop (0 : Nat) dvs)).length : Int) = n ∧
                  n ≤ s ∧
                    s < n + (↑ps.length : Int) ∧
                      (0 : Int) ≤ s_pair ps (s - n) ∧
                        s_pair ps (s - n) < n ∧ (0 : Nat) ≤ (1000000 : Nat) ∧ (0 : Nat) ≤ (1000000 : Nat))) ∧
   ((∀ (em113 : Int → Int → ByteArray → ByteArray),
   ((∀ (fm dst : Int) (base : ByteArray),
  (0 : Int) ≤ dst →
    dst ≤ (1000000 : Int) →
      base.size ≤ (1000000 : Nat) → s_emitR (s_hit n fk fa fm dst) ff ft ro base (em113 fm dst base)) →
   (∀ (rows115 : List (List AV)),
   ((rows115 =
  s_gIterS
    { n := n, dir := dir, sl := s, pi := pi,
      way := s_wayL n (s_last n (s_pair ps (s - n)) dir) dir (n - (2 : Int)).toNat,
      sts := List.take m1 (List.drop (0 : Nat) sts), dvs := List.take m2 (List.drop (0 : Nat) dvs), em := em113 }
    (s_gI3 n (s_pair ps (s - n)) (ByteArray.mk #[]) (ByteArray.mk #[])) (s_gI4 n (s_pair ps (s - n))) (0 : Nat)
    (n - (2 : Int)).toNat) →
   ((Hyp ((0 : Int) ≤ (0 : Int) ∧
  (0 : Int) ≤ (↑rows115.length : Int) ∧
    rows115.length ≤ (12 : Nat) ∧
      ∀ (j : Int), (0 : Int) ≤ j → j < (↑rows115.length : Int) → j ≠ fa → s_outB rows115 j = (ByteArray.mk #[]))) ∧
   (br ((↑rows115.length : Int) != n)
    (Q (Ex.ret) ([AV.bool false]) ([]))
    (Q (Ex.nrm) ([AV.ptr (0 : Nat) (0 : Nat), AV.int IntKind.i64 (IntKind.i64.wrap (s + (1 : Int)))]) ([AObj.box
    [AV.int IntKind.i64 n, AV.int IntKind.i64 pi, AV.int IntKind.i64 e, AV.int IntKind.i64 g, AV.int IntKind.i64 fi,
      AV.row nl [K.int IntKind.i64] ps, AV.int IntKind.i64 fk, AV.int IntKind.i64 fa, AV.int IntKind.i64 ff,
      AV.int IntKind.i64 ft, AV.row nl3 [K.int IntKind.i64, K.int IntKind.i64, K.str] acts,
      AV.row nl4 [K.int IntKind.i64] ds, AV.int IntKind.i64 ro, AV.int IntKind.i64 s, AV.int IntKind.i64 dir,
      AV.sl (1 : Nat) (0 : Nat) (↑(2 : Nat) : Int).toNat, AV.sl (2 : Nat) (0 : Nat) m1, AV.sl (3 : Nat) (0 : Nat) m2],
  AObj.arr (0 : Nat) (9 : Nat) [K.str] [[AV.str (ByteArray.mk #[])], [AV.str (ByteArray.mk #[])]],
  AObj.arr (0 : Nat) (3 : Nat) [K.int IntKind.i64] sts, AObj.arr (0 : Nat) (3 : Nat) [K.int IntKind.i64] dvs])))))))))))))))))))))))))
 (Q (Ex.exit (0 : Nat)) ([]) ([]))) := by kernel_rfl
theorem nfBo0 (s n pi e g fi fk fa ff ft ro sl dir : Int) (nl nl3 nl4 : Bool) (ps acts ds ss sts dvs : List (List AV)) (ms m1 m2 : Nat) (Q : Ex → List AV → List AObj → Prop) : lpBody Try.prog H0 B1 6 6 8 14 [.ptr 0 0, .int .i64 s] [.box [.int .i64 n, .int .i64 pi, .int .i64 e, .int .i64 g, .int .i64 fi, .row nl [.int .i64] ps, .int .i64 fk, .int .i64 fa, .int .i64 ff, .int .i64 ft, .row nl3 [.int .i64, .int .i64, .str] acts, .row nl4 [.int .i64] ds, .int .i64 ro, .int .i64 sl, .int .i64 dir, .sl 1 0 ms, .sl 2 0 m1, .sl 3 0 m2], .arr 0 9 [.str] ss, .arr 0 3 [.int .i64] sts, .arr 0 3 [.int .i64] dvs] Q = (
br (decide (s < IntKind.i64.wrap (n + (↑ps.length : Int))))
 (((Hyp ((6 : Int) ≤ n ∧
  n ≤ (12 : Int) ∧
    ps.length ≤ (3 : Nat) ∧
      (0 : Int) ≤ s ∧ s < n + (↑ps.length : Int) ∧ (n ≤ s → (-1 : Int) ≤ s_pair ps (s - n) ∧ s_pair ps (s - n) < n))) ∧
 (((((s < n) →
 br (s == fa)
  (Q (Ex.nrm) ([AV.ptr (0 : Nat) (0 : Nat), AV.int IntKind.i64 (IntKind.i64.wrap (s + (1 : Int)))]) ([AObj.box
    [AV.int IntKind.i64 n, AV.int IntKind.i64 pi, AV.int IntKind.i64 e, AV.int IntKind.i64 g, AV.int IntKind.i64 fi,
      AV.row nl [K.int IntKind.i64] ps, AV.int IntKind.i64 fk, AV.int IntKind.i64 fa, AV.int IntKind.i64 ff,
      AV.int IntKind.i64 ft, AV.row nl3 [K.int IntKind.i64, K.int IntKind.i64, K.str] acts,
      AV.row nl4 [K.int IntKind.i64] ds, AV.int IntKind.i64 ro, AV.int IntKind.i64 sl, AV.int IntKind.i64 dir,
      AV.sl (1 : Nat) (0 : Nat) ms, AV.sl (2 : Nat) (0 : Nat) m1, AV.sl (3 : Nat) (0 : Nat) m2],
  AObj.arr (0 : Nat) (9 : Nat) [K.str] ss, AObj.arr (0 : Nat) (3 : Nat) [K.int IntKind.i64] sts,
  AObj.arr (0 : Nat) (3 : Nat) [K.int IntKind.i64] dvs]))
  (chk ((0 : Nat) + m1 ≤ sts.length) (chk ((0 : Nat) + m2 ≤ dvs.length) (((Hyp (s_confOk n pi e g fi (List.map (fun r => (r.getD (0 : Nat) AV.gone).toI) ps) = true ∧
  s_actsB acts ∧
    (0 : Int) ≤ ro ∧
      ro ≤ (1000000 : Int) ∧
        (0 : Int) ≤ s ∧
          s ≤ (1000000 : Int) ∧
            (dir = (1 : Int) ∨ dir = (-1 : Int)) ∧
              (↑(List.take m1 (List.drop (0 : Nat) sts)).length : Int) = n ∧
                (↑(List.take m2 (List.drop (0 : Nat) dvs)).length : Int) = n ∧ s < n ∧ (0 : Nat) ≤ (1000000 : Nat))) ∧
  ((∀ (em108 : Int → Int → ByteArray → ByteArray),
  ((∀ (fm dst : Int) (base : ByteArray),
  (0 : Int) ≤ dst →
    dst ≤ (1000000 : Int) →
      base.size ≤ (1000000 : Nat) → s_emitR (s_hit n fk fa fm dst) ff ft ro base (em108 fm dst base)) →
  (∀ (rows110 : List (List AV)),
  ((rows110 =
  s_gIterS
    { n := n, dir := dir, sl := s, pi := pi, way := s_wayL n s dir (n - (1 : Int)).toNat,
      sts := List.take m1 (List.drop (0 : Nat) sts), dvs := List.take m2 (List.drop (0 : Nat) dvs), em := em108 }
    (s_gI1 n s (ByteArray.mk #[])) (s_gI2 n s) (0 : Nat) (n - (1 : Int)).toNat) →
  ((Hyp ((0 : Int) ≤ (0 : Int) ∧
  (0 : Int) ≤ (↑rows110.length : Int) ∧
    rows110.length ≤ (12 : Nat) ∧
      ∀ (j : Int), (0 : Int) ≤ j → j < (↑rows110.length : Int) → j ≠ fa → s_outB rows110 j = (ByteArray.mk #[]))) ∧
  (br ((↑rows110.length : Int) != n)
   (Q (Ex.ret) ([AV.bool false]) ([]))
   (Q (Ex.nrm) ([AV.ptr (0 : Nat) (0 : Nat), AV.int IntKind.i64 (IntKind.i64.wrap (s + (1 : Int)))]) ([AObj.box
    [AV.int IntKind.i64 n, AV.int IntKind.i64 pi, AV.int IntKind.i64 e, AV.int IntKind.i64 g, AV.int IntKind.i64 fi,
      AV.row nl [K.int IntKind.i64] ps, AV.int IntKind.i64 fk, AV.int IntKind.i64 fa, AV.int IntKind.i64 ff,
      AV.int IntKind.i64 ft, AV.row nl3 [K.int IntKind.i64, K.int IntKind.i64, K.str] acts,
      AV.row nl4 [K.int IntKind.i64] ds, AV.int IntKind.i64 ro, AV.int IntKind.i64 s, AV.int IntKind.i64 dir,
      AV.sl (1 : Nat) (0 : Nat) (↑(1 : Nat) : Int).toNat, AV.sl (2 : Nat) (0 : Nat) m1, AV.sl (3 : Nat) (0 : Nat) m2],
  AObj.arr (0 : Nat) (9 : Nat) [K.str] [[AV.str (ByteArray.mk #[])]], AObj.arr (0 : Nat) (3 : Nat) [K.int IntKind.i64] sts,
  AObj.arr (0 : Nat) (3 : Nat) [K.int IntKind.i64] dvs]))))))))))))))) ∧
 (((((n ≤ s) →
 ((s_pair ps (s - n) = (-1 : Int)) →
 chk ((0 : Nat) + m1 ≤ sts.length) (chk ((0 : Nat) + m2 ≤ dvs.length) (((Hyp (s_confOk n pi e g fi (List.map (fun r => (r.getD (0 : Nat) AV.gone).toI) ps) = true ∧
  s_actsB acts ∧
    (0 : Int) ≤ ro ∧
      ro ≤ (1000000 : Int) ∧
        (0 : Int) ≤ s ∧
          s ≤ (1000000 : Int) ∧
            (dir = (1 : Int) ∨ dir = (-1 : Int)) ∧
              (↑(List.take m1 (List.drop (0 : Nat) sts)).length : Int) = n ∧
                (↑(List.take m2 (List.drop (0 : Nat) dvs)).length : Int) = n ∧
                  n ≤ s ∧ s < n + (↑ps.length : Int) ∧ s_pair ps (s - n) = (-1 : Int))) ∧
 (((Hyp ((0 : Int) ≤ (0 : Int) ∧
  (0 : Int) ≤
      (↑(List.replicate n.toNat
              [AV.str (ByteArray.mk #[]), AV.str (ByteArray.mk #[]), AV.str (ByteArray.mk #[]),
                AV.int IntKind.i64 (0 : Int)]).length :
        Int) ∧
    (List.replicate n.toNat
            [AV.str (ByteArray.mk #[]), AV.str (ByteArray.mk #[]), AV.str (ByteArray.mk #[]),
              AV.int IntKind.i64 (0 : Int)]).length ≤
        (12 : Nat) ∧
      ∀ (j : Int),
        (0 : Int) ≤ j →
          j < (↑(List.replicate n.toNat zeroS).length : Int) →
            j ≠ fa → s_outB (List.replicate n.toNat zeroS) j = (ByteArray.mk #[]))) ∧
 (br ((↑(List.replicate n.toNat
          [AV.str (ByteArray.mk #[]), AV.str (ByteArray.mk #[]), AV.str (ByteArray.mk #[]),
            AV.int IntKind.i64 (0 : Int)]).length :
    Int) !=
  n)
  (Q (Ex.ret) ([AV.bool false]) ([]))
  (Q (Ex.nrm) ([AV.ptr (0 : Nat) (0 : Nat), AV.int IntKind.i64 (IntKind.i64.wrap (s + (1 : Int)))]) ([AObj.box
    [AV.int IntKind.i64 n, AV.int IntKind.i64 pi, AV.int IntKind.i64 e, AV.int IntKind.i64 g, AV.int IntKind.i64 fi,
      AV.row nl [K.int IntKind.i64] ps, AV.int IntKind.i64 fk, AV.int IntKind.i64 fa, AV.int IntKind.i64 ff,
      AV.int IntKind.i64 ft, AV.row nl3 [K.int IntKind.i64, K.int IntKind.i64, K.str] acts,
      AV.row nl4 [K.int IntKind.i64] ds, AV.int IntKind.i64 ro, AV.int IntKind.i64 s, AV.int IntKind.i64 dir,
      AV.sl (1 : Nat) (0 : Nat) (0 : Nat), AV.sl (2 : Nat) (0 : Nat) m1, AV.sl (3 : Nat) (0 : Nat) m2],
  AObj.arr (0 : Nat) (9 : Nat) [K.str] [], AObj.arr (0 : Nat) (3 : Nat) [K.int IntKind.i64] sts,
  AObj.arr (0 : Nat) (3 : Nat) [K.int IntKind.i64] dvs]))))))))))) ∧
 ((∀ (p104 : Int),
 ((n ≤ s) →
 ((p104 = s_pair ps (s - n)) →
 (((0 : Int) ≤ p104) →
 br (p104 == fa)
  (Q (Ex.nrm) ([AV.ptr (0 : Nat) (0 : Nat), AV.int IntKind.i64 (IntKind.i64.wrap (s + (1 : Int)))]) ([AObj.box
    [AV.int IntKind.i64 n, AV.int IntKind.i64 pi, AV.int IntKind.i64 e, AV.int IntKind.i64 g, AV.int IntKind.i64 fi,
      AV.row nl [K.int IntKind.i64] ps, AV.int IntKind.i64 fk, AV.int IntKind.i64 fa, AV.int IntKind.i64 ff,
      AV.int IntKind.i64 ft, AV.row nl3 [K.int IntKind.i64, K.int IntKind.i64, K.str] acts,
      AV.row nl4 [K.int IntKind.i64] ds, AV.int IntKind.i64 ro, AV.int IntKind.i64 sl, AV.int IntKind.i64 dir,
      AV.sl (1 : Nat) (0 : Nat) ms, AV.sl (2 : Nat) (0 : Nat) m1, AV.sl (3 : Nat) (0 : Nat) m2],
  AObj.arr (0 : Nat) (9 : Nat) [K.str] ss, AObj.arr (0 : Nat) (3 : Nat) [K.int IntKind.i64] sts,
  AObj.arr (0 : Nat) (3 : Nat) [K.int IntKind.i64] dvs]))
  (br (s_rem (p104 + (1 : Int)) n == fa)
   (Q (Ex.nrm) ([AV.ptr (0 : Nat) (0 : Nat), AV.int IntKind.i64 (IntKind.i64.wrap (s + (1 : Int)))]) ([AObj.box
    [AV.int IntKind.i64 n, AV.int IntKind.i64 pi, AV.int IntKind.i64 e, AV.int IntKind.i64 g, AV.int IntKind.i64 fi,
      AV.row nl [K.int IntKind.i64] ps, AV.int IntKind.i64 fk, AV.int IntKind.i64 fa, AV.int IntKind.i64 ff,
      AV.int IntKind.i64 ft, AV.row nl3 [K.int IntKind.i64, K.int IntKind.i64, K.str] acts,
      AV.row nl4 [K.int IntKind.i64] ds, AV.int IntKind.i64 ro, AV.int IntKind.i64 sl, AV.int IntKind.i64 dir,
      AV.sl (1 : Nat) (0 : Nat) ms, AV.sl (2 : Nat) (0 : Nat) m1, AV.sl (3 : Nat) (0 : Nat) m2],
  AObj.arr (0 : Nat) (9 : Nat) [K.str] ss, AObj.arr (0 : Nat) (3 : Nat) [K.int IntKind.i64] sts,
  AObj.arr (0 : Nat) (3 : Nat) [K.int IntKind.i64] dvs]))
   (chk ((0 : Nat) + m1 ≤ sts.length) (chk ((0 : Nat) + m2 ≤ dvs.length) (((Hyp (s_confOk n pi e g fi (List.map (fun r => (r.getD (0 : Nat) AV.gone).toI) ps) = true ∧
  s_actsB acts ∧
    (0 : Int) ≤ ro ∧
      ro ≤ (1000000 : Int) ∧
        (0 : Int) ≤ s ∧
          s ≤ (1000000 : Int) ∧
            (dir = (1 : Int) ∨ dir = (-1 : Int)) ∧
              (↑(List.take m1 (List.drop (0 : Nat) sts)).length : Int) = n ∧
                (↑(List.take m2 (List.drop (0 : Nat) dvs)).length : Int) = n ∧
                  n ≤ s ∧
                    s < n + (↑ps.length : Int) ∧
                      (0 : Int) ≤ s_pair ps (s - n) ∧
                        s_pair ps (s - n) < n ∧ (0 : Nat) ≤ (1000000 : Nat) ∧ (0 : Nat) ≤ (1000000 : Nat))) ∧
   ((∀ (em113 : Int → Int → ByteArray → ByteArray),
   ((∀ (fm dst : Int) (base : ByteArray),
  (0 : Int) ≤ dst →
    dst ≤ (1000000 : Int) →
      base.size ≤ (1000000 : Nat) → s_emitR (s_hit n fk fa fm dst) ff ft ro base (em113 fm dst base)) →
   (∀ (rows115 : List (List AV)),
   ((rows115 =
  s_gIterS
    { n := n, dir := dir, sl := s, pi := pi,
      way := s_wayL n (s_last n (s_pair ps (s - n)) dir) dir (n - (2 : Int)).toNat,
      sts := List.take m1 (List.drop (0 : Nat) sts), dvs := List.take m2 (List.drop (0 : Nat) dvs), em := em113 }
    (s_gI3 n (s_pair ps (s - n)) (ByteArray.mk #[]) (ByteArray.mk #[])) (s_gI4 n (s_pair ps (s - n))) (0 : Nat)
    (n - (2 : Int)).toNat) →
   ((Hyp ((0 : Int) ≤ (0 : Int) ∧
  (0 : Int) ≤ (↑rows115.length : Int) ∧
    rows115.length ≤ (12 : Nat) ∧
      ∀ (j : Int), (0 : Int) ≤ j → j < (↑rows115.length : Int) → j ≠ fa → s_outB rows115 j = (ByteArray.mk #[]))) ∧
   (br ((↑rows115.length : Int) != n)
    (Q (Ex.ret) ([AV.bool false]) ([]))
    (Q (Ex.nrm) ([AV.ptr (0 : Nat) (0 : Nat), AV.int IntKind.i64 (IntKind.i64.wrap (s + (1 : Int)))]) ([AObj.box
    [AV.int IntKind.i64 n, AV.int IntKind.i64 pi, AV.int IntKind.i64 e, AV.int IntKind.i64 g, AV.int IntKind.i64 fi,
      AV.row nl [K.int IntKind.i64] ps, AV.int IntKind.i64 fk, AV.int IntKind.i64 fa, AV.int IntKind.i64 ff,
      AV.int IntKind.i64 ft, AV.row nl3 [K.int IntKind.i64, K.int IntKind.i64, K.str] acts,
      AV.row nl4 [K.int IntKind.i64] ds, AV.int IntKind.i64 ro, AV.int IntKind.i64 s, AV.int IntKind.i64 dir,
      AV.sl (1 : Nat) (0 : Nat) (↑(2 : Nat) : Int).toNat, AV.sl (2 : Nat) (0 : Nat) m1, AV.sl (3 : Nat) (0 : Nat) m2],
  AObj.arr (0 : Nat) (9 : Nat) [K.str] [[AV.str (ByteArray.mk #[])], [AV.str (ByteArray.mk #[])]],
  AObj.arr (0 : Nat) (3 : Nat) [K.int IntKind.i64] sts, AObj.arr (0 : Nat) (3 : Nat) [K.int IntKind.i64] dvs])))))))))))))))))))))))))
 (Q (Ex.exit (0 : Nat)) ([]) ([]))) := by kernel_rfl
theorem nfBab (n pi e g fi : Int) (nl : Bool) (ps : List (List AV)) (fk fa ff ft : Int) (nl1 nl2 : Bool) (acts ds : List (List AV)) (round at_ pair : Int) (up : Bool) (Q : AV × List AObj → Prop) : inlW Try.prog H0 B2 6 (InO Try.prog H0 B2 6 6) 8 [cf n pi e g fi nl ps, .agg [.int .i64 fk, .int .i64 fa, .int .i64 ff, .int .i64 ft, .row nl1 [.int .i64, .int .i64, .str] acts, .row nl2 [.int .i64] ds], .int .i64 round, .int .i64 at_, .int .i64 pair, .bool up] [] Q = (
((Hyp (acts.length ≤ (9223372036854775807 : Nat))) ∧
((∀ (b101 : Bool),
((b101 = true →
  acts.length ≤ (50 : Nat) ∧ ds.length ≤ (50 : Nat) ∧ ∀ (r : List AV), r ∈ acts → (actText r).size ≤ (1200 : Nat)) →
br (!b101)
 (Q ((AV.bool true, [])))
 (br (!up)
  ((∀ (n105 : Int),
  (∀ (pi106 : Int),
  (∀ (e107 : Int),
  (∀ (g108 : Int),
  (∀ (fi109 : Int),
  (∀ (nl110 : Bool),
  (∀ (qs111 : List Int),
  (∀ (m112 : Nat),
  (∀ (z113 : ByteArray),
  ((s_made n105 pi106 e107 g108 fi109 qs111 ∧
  (↑m112 : Int) = n105 ∧ s_clean z113 = z113 ∧ (0 : Nat) < z113.size ∧ z113.size ≤ (1000 : Nat)) →
  ((Hyp ((6 : Int) ≤ n105 ∧ n105 ≤ (12 : Int))) ∧
  ((∀ (k'116 : Int),
  (∀ (a'117 : Int),
  (∀ (f'118 : Int),
  (∀ (t'119 : Int),
  (∀ (nl1'120 : Bool),
  (∀ (nl2'121 : Bool),
  (∀ (acts'122 : List (List AV)),
  (∀ (ds'123 : List Int),
  ((s_fok n105 k'116 a'117 f'118 t'119 acts'122 ds'123) →
  chk ((0 : Int) < n105 ∧ n105 < (9223372036854775808 : Int)) (((Hyp ((0 : Int) ≤ (0 : Int) ∧
  (0 : Int) ≤ n105 + (↑(List.map (fun n => [AV.int IntKind.i64 n]) qs111).length : Int) ∧
    s_confOk n105 pi106 e107 g108 fi109
          (List.map (fun r => (r.getD (0 : Nat) AV.gone).toI) (List.map (fun n => [AV.int IntKind.i64 n]) qs111)) =
        true ∧
      s_actsB acts'122 ∧
        (1 : Int) = (1 : Int) ∧
          (0 : Int) ≤ s_rem at_ n105 ∧
            s_rem at_ n105 < n105 ∧
              (0 : Int) ≤ s_rem round (900 : Int) ∧
                s_rem round (900 : Int) ≤ (900 : Int) ∧
                  ((-1 : Int) = (1 : Int) ∨ (-1 : Int) = (-1 : Int)) ∧
                    (↑m112 : Int) = n105 ∧
                      (↑m112 : Int) = n105 ∧
                        s_rep m112 (4 : Int) = s_rep m112 (4 : Int) ∧ s_rep m112 (0 : Int) = s_rep m112 (0 : Int))) ∧
  (Q ((AV.bool true, [])))))))))))))))))))))))))))
  ((∀ (n105 : Int),
  (∀ (pi106 : Int),
  (∀ (e107 : Int),
  (∀ (g108 : Int),
  (∀ (fi109 : Int),
  (∀ (nl110 : Bool),
  (∀ (qs111 : List Int),
  (∀ (m112 : Nat),
  (∀ (z113 : ByteArray),
  ((s_made n105 pi106 e107 g108 fi109 qs111 ∧
  (↑m112 : Int) = n105 ∧ s_clean z113 = z113 ∧ (0 : Nat) < z113.size ∧ z113.size ≤ (1000 : Nat)) →
  ((Hyp ((6 : Int) ≤ n105 ∧ n105 ≤ (12 : Int))) ∧
  ((∀ (k'116 : Int),
  (∀ (a'117 : Int),
  (∀ (f'118 : Int),
  (∀ (t'119 : Int),
  (∀ (nl1'120 : Bool),
  (∀ (nl2'121 : Bool),
  (∀ (acts'122 : List (List AV)),
  (∀ (ds'123 : List Int),
  ((s_fok n105 k'116 a'117 f'118 t'119 acts'122 ds'123) →
  chk ((0 : Int) < n105 ∧ n105 < (9223372036854775808 : Int)) (((Hyp ((0 : Int) ≤ (0 : Int) ∧
  (0 : Int) ≤ n105 + (↑(List.map (fun n => [AV.int IntKind.i64 n]) qs111).length : Int) ∧
    s_confOk n105 pi106 e107 g108 fi109
          (List.map (fun r => (r.getD (0 : Nat) AV.gone).toI) (List.map (fun n => [AV.int IntKind.i64 n]) qs111)) =
        true ∧
      s_actsB acts'122 ∧
        (1 : Int) = (1 : Int) ∧
          (0 : Int) ≤ s_rem at_ n105 ∧
            s_rem at_ n105 < n105 ∧
              (0 : Int) ≤ s_rem round (900 : Int) ∧
                s_rem round (900 : Int) ≤ (900 : Int) ∧
                  ((1 : Int) = (1 : Int) ∨ (1 : Int) = (-1 : Int)) ∧
                    (↑m112 : Int) = n105 ∧
                      (↑m112 : Int) = n105 ∧
                        s_rep m112 (4 : Int) = s_rep m112 (4 : Int) ∧ s_rep m112 (0 : Int) = s_rep m112 (0 : Int))) ∧
  (Q ((AV.bool true, []))))))))))))))))))))))))))))))))) := by kernel_rfl
end Go.Proofs.YtiemjcchlfbglaaE
/- SpreadBabble: the plain law. -/
namespace Go.Proofs.YtiemjcchlfbglaaE
open Go Go.WideShapes
set_option linter.unusedVariables false
set_option linter.unusedSimpArgs false
set_option maxRecDepth 100000

theorem okOwnDX : OkS Try.prog H0 24 sOwnDX := by
  intro args h Q hq
  unfold sOwnDX at hq
  split at hq
  · rename_i n pi e g fi nl ps slot
    obtain ⟨⟨n1, n2, hl, s0, s1, hp⟩, hq1, hq2, hq3⟩ := hyp_iff.1 hq
    refine in_ok (S := Y1) (U := 6) (k := 6) okY1 (to (nfOwnD ..) ?_)
    have w0 : IntKind.i64.wrap (n + (ps.length : Int)) = n + ps.length := wr (by omega) (by omega)
    have w1 : IntKind.i64.wrap (slot - n) = slot - n := wr (by omega) (by omega)
    rw [w0, w1]
    have hpp : ((ps.getD (slot - n).toNat []).getD 0 AV.gone).toI = s_pair ps (slot - n) := rfl
    rw [hpp]
    refine br_intro (fun c => absurd (of_decide_eq_true c) (by omega)) fun _ => br_intro (fun c => absurd (of_decide_eq_true c) (by omega)) fun _ => br_intro (fun c => hq1 (of_decide_eq_true c)) fun c => ?_
    have c := of_decide_eq_false c
    have hp := hp (by omega)
    rw [chk_iff]
    refine ⟨by omega, br_intro (fun c2 => hq2 (by omega) (by have := of_decide_eq_true c2; omega)) fun c2 => ?_⟩
    have c2 := of_decide_eq_false c2
    rw [chk_iff, chk_iff, wr (x := s_pair ps (slot - n) + 1) (by omega) (by omega), Int.tmod_eq_emod_of_nonneg (by omega)]
    exact ⟨by omega, by omega, hq3 _ (by omega) rfl (by omega)⟩
  · exact hq.elim
theorem okB0 : OkSp Try.prog H0 B0 := ⟨⟨okOwnDX, okY3.fn⟩, trivial⟩
theorem okLBi : OkLp Try.prog H0 8 21 lBi := by
  refine okLp_of (U := 6) (k := 6) okB0 lBi (fun vals _ => match vals with | [_, _, .row _ _ rows, .int _ i] => ((rows.length : Int) - i).toNat | _ => 0) fun vals h Q hl => ?_
  unfold lBi at hl
  split at hl
  · rename_i s nw rows i n pi e g fi nl ps fk fa ff ft nl3 acts nl4 ds ro sl dir ms m1 m2 ss sts dvs
    obtain ⟨⟨h0, h1, h2, h3⟩, hq⟩ := hyp_iff.1 hl
    refine to (nfBi ..) (br_intro (fun c => ?_) fun c => hq)
    have c := of_decide_eq_true c
    have wi : IntKind.i64.wrap (i + 1) = i + 1 := wr (by omega) (by omega)
    have nxt : ((rows.length : Int) - (i + 1)).toNat < ((rows.length : Int) - i).toNat := by omega
    rw [wi]
    refine br_intro (fun c1 => ?_) fun _ => ⟨nxt, hyp_iff.2 ⟨⟨by omega, by omega, h2, h3⟩, hq⟩⟩
    have c1 : i ≠ fa := by simpa using c1
    rw [chk_iff]
    refine ⟨⟨h0, c⟩, br_intro (fun c2 => absurd (c2.symm.trans (strR_eq (h3 i h0 c c1))) (by simp)) fun _ => ⟨nxt, hyp_iff.2 ⟨⟨by omega, by omega, h2, h3⟩, hq⟩⟩⟩
  · exact hl.elim
theorem okB1 : OkSp Try.prog H0 B1 := ⟨okB0.fn, okLBi, trivial⟩
theorem pair_ok {n pi e g fi : Int} {ps : List (List AV)} (hc : s_confOk n pi e g fi (ints ps) = true) {s : Int} (h1 : n ≤ s) (h2 : s < n + ps.length) : -1 ≤ s_pair ps (s - n) ∧ s_pair ps (s - n) < n := by
  simp only [s_confOk, Bool.and_eq_true, decide_eq_true_eq, List.all_eq_true] at hc
  have hi : (s - n).toNat < ps.length := by omega
  have hm : s_pair ps (s - n) ∈ ints ps := by
    unfold s_pair ints
    rw [List.getD_eq_getElem?_getD (l := ps), List.getElem?_eq_getElem hi]
    exact List.mem_map.2 ⟨ps[(s - n).toNat], List.getElem_mem hi, rfl⟩
  exact hc.2 _ hm
theorem zero_out (n j : Int) : s_outB (List.replicate n.toNat zeroS) j = (⟨#[]⟩ : ByteArray) := by
  unfold s_outB
  by_cases h : j.toNat < n.toNat
  · rw [rep_get h]; rfl
  · rw [List.getD_eq_getElem?_getD, List.getElem?_replicate, if_neg h]; rfl
theorem bab_one {n dir sl pi at_ ro ff ft : Int} {m1 m2 : Nat} {em : Int → Int → ByteArray → ByteArray} {rows : List (List AV)} (hn : 6 ≤ n) (hn2 : n ≤ 12) (hd : dir = 1 ∨ dir = -1) (hs : 0 ≤ sl ∧ sl < n) (p0 : 0 ≤ pi) (p1 : pi ≤ 1000000) (e1 : (m1 : Int) = n) (e2 : (m2 : Int) = n)
    (hr : rows = s_gIterS ⟨n, dir, sl, pi, s_wayL n sl dir (n - 1).toNat, s_rep m1 4, s_rep m2 0, em⟩ (s_gI1 n sl ⟨#[]⟩) (s_gI2 n sl) 0 (n - 1).toNat)
    (hE : ∀ (fm dst : Int) (base : ByteArray), 0 ≤ dst → dst ≤ 1000000 → base.size ≤ 1000000 → s_emitR (s_hit n 1 at_ fm dst) ff ft ro base (em fm dst base)) (hne : sl ≠ at_) :
    rows.length = n.toNat ∧ ∀ j : Int, 0 ≤ j → j < n → j ≠ at_ → s_outB rows j = ⟨#[]⟩ := by
  obtain ⟨P, Pn, Pd, Psl, Pe, hok, hN, hS', hg, hl, get⟩ := run_one hn hn2 hd hs (fun i i0 i1 => repR_int i0 (by omega)) (fun i i0 i1 => by rw [repR_int i0 (by omega)]; omega) hr
  have hE' : gEm P (s_hit n 1 at_) ff ft ro := by unfold gEm; rw [Pe]; exact hE
  refine ⟨hl, fun j j0 j1 jn => ?_⟩
  have hf := far_lt (n := n) (o := sl) (dir := dir) (by omega) j
  have hnf := node_far hd hs.1 hs.2 j0 j1
  unfold s_outB
  rw [get j j0 j1, gSide_out hok (by omega)]
  refine babble (at_ := at_) hok hE' (fun i k h => ?_) ?_ _ (by omega) ?_
  · unfold s_hit
    rw [if_pos rfl]
    exact beq_eq_false_iff_ne.2 h
  · rw [hN, node_zero hs.1 hs.2]; exact hne
  · rw [hN, hnf]; exact jn
theorem bab_two {n dir sl pi at_ ro ff ft p : Int} {m1 m2 : Nat} {em : Int → Int → ByteArray → ByteArray} {rows : List (List AV)} (hn : 6 ≤ n) (hn2 : n ≤ 12) (hd : dir = 1 ∨ dir = -1) (hp : 0 ≤ p ∧ p < n) (p0 : 0 ≤ pi) (p1 : pi ≤ 1000000) (e1 : (m1 : Int) = n) (e2 : (m2 : Int) = n)
    (hr : rows = s_gIterS ⟨n, dir, sl, pi, s_wayL n (s_last n p dir) dir (n - 2).toNat, s_rep m1 4, s_rep m2 0, em⟩ (s_gI3 n p ⟨#[]⟩ ⟨#[]⟩) (s_gI4 n p) 0 (n - 2).toNat)
    (hE : ∀ (fm dst : Int) (base : ByteArray), 0 ≤ dst → dst ≤ 1000000 → base.size ≤ 1000000 → s_emitR (s_hit n 1 at_ fm dst) ff ft ro base (em fm dst base)) (hne : p ≠ at_) (hne2 : s_rem (p + 1) n ≠ at_) :
    rows.length = n.toNat ∧ ∀ j : Int, 0 ≤ j → j < n → j ≠ at_ → s_outB rows j = ⟨#[]⟩ := by
  obtain ⟨P, Pn, Pd, Psl, Pe, hok, hN, hS', hg, hl, get⟩ := run_two hn hn2 hd hp (fun i i0 i1 => repR_int i0 (by omega)) (fun i i0 i1 => by rw [repR_int i0 (by omega)]; omega) hr
  have hE' : gEm P (s_hit n 1 at_) ff ft ro := by unfold gEm; rw [Pe]; exact hE
  have hll := last_lt (n := n) (dir := dir) (by omega) hp.1 hp.2
  have x0 : s_x0 dir (⟨#[]⟩ : ByteArray) ⟨#[]⟩ = ⟨#[]⟩ := by unfold s_x0; split <;> rfl
  have x1 : s_x1 dir (⟨#[]⟩ : ByteArray) ⟨#[]⟩ = ⟨#[]⟩ := by unfold s_x1; split <;> rfl
  refine ⟨hl, fun j j0 j1 jn => ?_⟩
  have hf := far_lt (n := n) (o := s_last n p dir) (dir := dir) (by omega) j
  have hnf := node_far hd hll.1 hll.2 j0 j1
  unfold s_outB
  rw [get j j0 j1, x0, x1]
  by_cases hfar : (s_far n (s_last n p dir) dir j).toNat ≤ (n - 2).toNat
  · rw [gSide_out hok hfar]
    refine babble (at_ := at_) hok hE' (fun i k h => ?_) ?_ _ hfar ?_
    · unfold s_hit
      rw [if_pos rfl]
      exact beq_eq_false_iff_ne.2 h
    · rw [hN, node_zero hll.1 hll.2]
      unfold s_last
      split
      · exact hne2
      · exact hne
    · rw [hN, hnf]; exact jn
  · unfold gSide
    rw [if_neg (by omega), if_pos ⟨rfl, by omega⟩]
    rfl
theorem okLBo : OkLp Try.prog H0 8 14 lBo := by
  refine okLp_of (U := 6) (k := 6) okB1 lBo (fun vals h => match vals, h with | [_, .int _ s], .box (.int _ n :: _ :: _ :: _ :: _ :: .row _ _ ps :: _) :: _ => (n + (ps.length : Int) - s).toNat | _, _ => 0) fun vals h Q hl => ?_
  unfold lBo at hl
  split at hl
  · rename_i s n pi e g fi nl ps fk fa ff ft nl3 acts nl4 ds ro sl dir ms m1 m2 ss sts dvs
    obtain ⟨⟨h0, h1, hc, ha, k1, a0, a1, r0, r1, hd, e1, e2, hs, hdv⟩, hq⟩ := hyp_iff.1 hl
    subst k1; subst hs; subst hdv
    obtain ⟨hn1, hn2, hp3⟩ := confOk_ps hc
    obtain ⟨p0, p1⟩ := confOk_pi hc
    have wn : IntKind.i64.wrap (n + (ps.length : Int)) = n + ps.length := wr (by omega) (by omega)
    have ws : IntKind.i64.wrap (s + 1) = s + 1 := wr (by omega) (by omega)
    refine to (nfBo2 ..) ?_
    rw [wn, ws]
    refine br_intro (fun c => ?_) fun _ => hq
    have c := of_decide_eq_true c
    have hm : (n + (ps.length : Int) - (s + 1)).toNat < (n + (ps.length : Int) - s).toNat := by omega
    have hyp : 0 ≤ s + 1 ∧ s + 1 ≤ n + (ps.length : Int) ∧ s_confOk n pi e g fi (ints ps) = true ∧ s_actsB acts ∧ (1 : Int) = 1 ∧ 0 ≤ fa ∧ fa < n ∧ 0 ≤ ro ∧ ro ≤ 900 ∧ (dir = 1 ∨ dir = -1) ∧ (m1 : Int) = n ∧ (m2 : Int) = n ∧ s_rep m1 4 = s_rep m1 4 ∧ s_rep m2 0 = s_rep m2 0 :=
      ⟨by omega, by omega, hc, ha, rfl, a0, a1, r0, r1, hd, e1, e2, rfl, rfl⟩
    have cm : s_confOk n pi e g fi (List.map (fun r => (r.getD 0 AV.gone).toI) ps) = true := hc
    simp only [chk_iff, hyp_iff, repR_take, rep_len]
    refine ⟨⟨hn1, hn2, hp3, h0, c, fun hns => pair_ok hc hns c⟩, fun hsn => br_intro (fun _ => ⟨hm, hyp_iff.2 ⟨hyp, hq⟩⟩) fun hne => ⟨by omega, by omega, ⟨cm, ha, r0, by omega, h0, by omega, hd, e1, e2, hsn, by omega⟩, fun em hem rows hr => ?_⟩,
      fun hns hp => ⟨by omega, by omega, ⟨cm, ha, r0, by omega, h0, by omega, hd, e1, e2, hns, c, hp⟩, ⟨by omega, by omega, by simp; omega, fun j _ _ _ => zero_out n j⟩, br_intro (fun cc => absurd cc (by simp; omega)) fun _ => ⟨hm, hyp_iff.2 ⟨hyp, hq⟩⟩⟩,
      fun p hns hp hp0 => br_intro (fun _ => ⟨hm, hyp_iff.2 ⟨hyp, hq⟩⟩) fun hne => br_intro (fun _ => ⟨hm, hyp_iff.2 ⟨hyp, hq⟩⟩) fun hne2 => ⟨by omega, by omega, ⟨cm, ha, r0, by omega, h0, by omega, hd, e1, e2, hns, c, by rw [← hp]; exact hp0, (pair_ok hc hns c).2, by omega, by omega⟩, fun em hem rows hr => ?_⟩⟩
    · have hne : s ≠ fa := by simpa using hne
      obtain ⟨l, o⟩ := bab_one hn1 hn2 hd ⟨h0, hsn⟩ (by omega) (by omega) e1 e2 hr hem hne
      exact ⟨⟨by omega, by omega, by omega, fun j j0 j1 jn => o j j0 (by omega) jn⟩, br_intro (fun cc => (bne_no (show (rows.length : Int) = n by omega) cc).elim) fun _ => ⟨hm, hyp_iff.2 ⟨hyp, hq⟩⟩⟩
    · have hne : p ≠ fa := by simpa using hne
      have hne2 : s_rem (p + 1) n ≠ fa := by simpa using hne2
      rw [← hp] at hr
      obtain ⟨l, o⟩ := bab_two hn1 hn2 hd ⟨hp0, by rw [hp]; exact (pair_ok hc hns c).2⟩ (by omega) (by omega) e1 e2 hr hem hne hne2
      exact ⟨⟨by omega, by omega, by omega, fun j j0 j1 jn => o j j0 (by omega) jn⟩, br_intro (fun cc => (bne_no (show (rows.length : Int) = n by omega) cc).elim) fun _ => ⟨hm, hyp_iff.2 ⟨hyp, hq⟩⟩⟩
  · rename_i s n pi e g fi nl ps fk fa ff ft nl3 acts nl4 ds ro sl dir ms m1 m2 ss sts dvs
    obtain ⟨⟨h0, h1, hc, ha, k1, a0, a1, r0, r1, hd, e1, e2, hs, hdv⟩, hq⟩ := hyp_iff.1 hl
    subst k1; subst hs; subst hdv
    obtain ⟨hn1, hn2, hp3⟩ := confOk_ps hc
    obtain ⟨p0, p1⟩ := confOk_pi hc
    have wn : IntKind.i64.wrap (n + (ps.length : Int)) = n + ps.length := wr (by omega) (by omega)
    have ws : IntKind.i64.wrap (s + 1) = s + 1 := wr (by omega) (by omega)
    refine to (nfBo0 ..) ?_
    rw [wn, ws]
    refine br_intro (fun c => ?_) fun _ => hq
    have c := of_decide_eq_true c
    have hm : (n + (ps.length : Int) - (s + 1)).toNat < (n + (ps.length : Int) - s).toNat := by omega
    have hyp : 0 ≤ s + 1 ∧ s + 1 ≤ n + (ps.length : Int) ∧ s_confOk n pi e g fi (ints ps) = true ∧ s_actsB acts ∧ (1 : Int) = 1 ∧ 0 ≤ fa ∧ fa < n ∧ 0 ≤ ro ∧ ro ≤ 900 ∧ (dir = 1 ∨ dir = -1) ∧ (m1 : Int) = n ∧ (m2 : Int) = n ∧ s_rep m1 4 = s_rep m1 4 ∧ s_rep m2 0 = s_rep m2 0 :=
      ⟨by omega, by omega, hc, ha, rfl, a0, a1, r0, r1, hd, e1, e2, rfl, rfl⟩
    have cm : s_confOk n pi e g fi (List.map (fun r => (r.getD 0 AV.gone).toI) ps) = true := hc
    simp only [chk_iff, hyp_iff, repR_take, rep_len]
    refine ⟨⟨hn1, hn2, hp3, h0, c, fun hns => pair_ok hc hns c⟩, fun hsn => br_intro (fun _ => ⟨hm, hyp_iff.2 ⟨hyp, hq⟩⟩) fun hne => ⟨by omega, by omega, ⟨cm, ha, r0, by omega, h0, by omega, hd, e1, e2, hsn, by omega⟩, fun em hem rows hr => ?_⟩,
      fun hns hp => ⟨by omega, by omega, ⟨cm, ha, r0, by omega, h0, by omega, hd, e1, e2, hns, c, hp⟩, ⟨by omega, by omega, by simp; omega, fun j _ _ _ => zero_out n j⟩, br_intro (fun cc => absurd cc (by simp; omega)) fun _ => ⟨hm, hyp_iff.2 ⟨hyp, hq⟩⟩⟩,
      fun p hns hp hp0 => br_intro (fun _ => ⟨hm, hyp_iff.2 ⟨hyp, hq⟩⟩) fun hne => br_intro (fun _ => ⟨hm, hyp_iff.2 ⟨hyp, hq⟩⟩) fun hne2 => ⟨by omega, by omega, ⟨cm, ha, r0, by omega, h0, by omega, hd, e1, e2, hns, c, by rw [← hp]; exact hp0, (pair_ok hc hns c).2, by omega, by omega⟩, fun em hem rows hr => ?_⟩⟩
    · have hne : s ≠ fa := by simpa using hne
      obtain ⟨l, o⟩ := bab_one hn1 hn2 hd ⟨h0, hsn⟩ (by omega) (by omega) e1 e2 hr hem hne
      exact ⟨⟨by omega, by omega, by omega, fun j j0 j1 jn => o j j0 (by omega) jn⟩, br_intro (fun cc => (bne_no (show (rows.length : Int) = n by omega) cc).elim) fun _ => ⟨hm, hyp_iff.2 ⟨hyp, hq⟩⟩⟩
    · have hne : p ≠ fa := by simpa using hne
      have hne2 : s_rem (p + 1) n ≠ fa := by simpa using hne2
      rw [← hp] at hr
      obtain ⟨l, o⟩ := bab_two hn1 hn2 hd ⟨hp0, by rw [hp]; exact (pair_ok hc hns c).2⟩ (by omega) (by omega) e1 e2 hr hem hne hne2
      exact ⟨⟨by omega, by omega, by omega, fun j j0 j1 jn => o j j0 (by omega) jn⟩, br_intro (fun cc => (bne_no (show (rows.length : Int) = n by omega) cc).elim) fun _ => ⟨hm, hyp_iff.2 ⟨hyp, hq⟩⟩⟩
  · exact hl.elim
theorem okB2 : OkSp Try.prog H0 B2 := ⟨okB0.fn, okLBo, okLBi, trivial⟩
theorem babble_holds (n pi e g fi : Int) (nl : Bool) (ps : List (List AV)) (fk fa ff ft : Int) (nl1 nl2 : Bool) (acts ds : List (List AV)) (hacts : ∀ r ∈ acts, ∃ (a b : Int) (s : ByteArray), r = [.int .i64 a, .int .i64 b, .str s] ∧ (s.size : Int) ≤ maxLen) (hal : acts.length ≤ maxLen) (hdl : ds.length ≤ maxLen) (hds : ∀ r ∈ ds, AInt .i64 r)
    (round at_ pair : Int) (up : Bool) :
    inlW Try.prog H0 B2 6 (InO Try.prog H0 B2 6 6) 8 [cf n pi e g fi nl ps, .agg [.int .i64 fk, .int .i64 fa, .int .i64 ff, .int .i64 ft, .row nl1 [.int .i64, .int .i64, .str] acts, .row nl2 [.int .i64] ds], .int .i64 round, .int .i64 at_, .int .i64 pair, .bool up] [] (fun r => r.1 = .bool true) := by
  refine to (nfBab ..) (hyp_iff.2 ⟨by unfold maxLen at hal; omega, fun b hb => br_intro (fun _ => rfl) fun _ => br_intro (fun _ => ?_) fun _ => ?_⟩)
  all_goals
    intro n' pi' e' g' fi' nl' qs m z hz
    obtain ⟨hm, hmn, _, _, _⟩ := hz
    have hn := hm.1
    have hn2 := hm.2.1
    have ha := rem_lt at_ (show 0 < n' by omega)
    have hr := rem_lt round (show (0 : Int) < 900 by omega)
    have cm : s_confOk n' pi' e' g' fi' (List.map (fun r => (r.getD 0 AV.gone).toI) (List.map (fun n => [AV.int IntKind.i64 n]) qs)) = true := cfR_ok hm
    simp only [chk_iff, hyp_iff]
    refine ⟨⟨hn, hn2⟩, fun k' a' f' t' nl1' nl2' acts' ds' hf => ⟨⟨by omega, by omega⟩, ⟨by omega, by omega, cm, actsR_ok hf, trivial, ha.1, ha.2, hr.1, by omega, ?_, hmn, hmn, trivial, trivial⟩, trivial⟩⟩
  · exact .inr trivial
  · exact .inl trivial
end Go.Proofs.YtiemjcchlfbglaaE
