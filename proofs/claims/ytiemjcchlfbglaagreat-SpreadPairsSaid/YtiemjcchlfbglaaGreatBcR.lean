/- A run with two owners; where nothing is sent nothing leaves. -/
import Derived.Test.YtiemjcchlfbglaaGreatBcM
import Derived.Test.YtiemjcchlfbglaaGreatBcO
import Derived.KernelRfl
namespace Go.Proofs.YtiemjcchlfbglaaGreatE
open Go
set_option linter.unusedVariables false
set_option linter.unusedSimpArgs false
set_option maxRecDepth 100000

def s_x0 (dir : Int) (s s2 : ByteArray) : ByteArray := if dir = 1 then s2 else s
def s_x1 (dir : Int) (s s2 : ByteArray) : ByteArray := if dir = 1 then s else s2
section
variable {P : RG} {a : Int} {s s2 : ByteArray}
theorem g2_far (hok : gOk P (s_last P.n a P.dir) true (P.n - 2).toNat) (ha : 0 ≤ a) (ha2 : a < P.n) {i : Int} (i0 : 0 ≤ i) (i1 : i < P.n) :
    ((s_far P.n (s_last P.n a P.dir) P.dir i).toNat = 0 ↔ i = s_last P.n a P.dir) ∧ ((((s_far P.n (s_last P.n a P.dir) P.dir i).toNat : Nat) : Int) = P.n - 1 ↔ i = if P.dir = 1 then a else s_rem (a + 1) P.n) := by
  have hd := hok.2.2.1
  have hl := last_lt (n := P.n) (dir := P.dir) (by have := hok.1; omega) ha ha2
  have hf := far_lt (n := P.n) (o := s_last P.n a P.dir) (dir := P.dir) (by have := hok.1; omega) i
  have hln := last_node (n := P.n) (dir := P.dir) hok.1 ha ha2 hd
  have f0 := far_node hd hl.1 hl.2 (k := 0) (by have := hok.1; omega)
  have f1 := far_node hd hl.1 hl.2 (k := P.n.toNat - 1) (by have := hok.1; omega)
  have hnf := node_far hd hl.1 hl.2 i0 i1
  rw [node_zero hl.1 hl.2] at f0
  have hn := hok.1
  constructor
  · constructor
    · intro h
      rw [h, node_zero hl.1 hl.2] at hnf
      exact hnf.symm
    · intro h
      rw [h, f0]; rfl
  · constructor
    · intro h
      have h : (s_far P.n (s_last P.n a P.dir) P.dir i).toNat = P.n.toNat - 1 := by omega
      rw [h, hln] at hnf
      exact hnf.symm
    · intro h
      rw [h, ← hln, f1]; omega
theorem gI3_eq (hok : gOk P (s_last P.n a P.dir) true (P.n - 2).toNat) (ha : 0 ≤ a) (ha2 : a < P.n) : s_gI3 P.n a s s2 = mG P (s_last P.n a P.dir) true (s_x0 P.dir s s2) (s_x1 P.dir s s2) 0 := by
  have hn := hok.1
  have hr := rem_lt (a + 1) (show 0 < P.n by omega)
  have h1 := rem1 (n := P.n) (by omega) ha ha2
  apply List.ext_getElem (by simp [s_gI3, mG])
  intro i q1 q2
  have hi : (i : Int) < P.n := by simp [s_gI3] at q1; omega
  obtain ⟨f0, f1⟩ := g2_far hok ha ha2 (i := (i : Int)) (by omega) hi
  simp only [s_gI3, mG, List.getElem_set, List.getElem_replicate, List.getElem_map, List.getElem_range]
  unfold gIs gSide
  by_cases hd : P.dir = 1
  · have el : s_last P.n a P.dir = s_rem (a + 1) P.n := by unfold s_last; rw [if_pos hd]
    rw [if_pos hd] at f1
    unfold s_x0 s_x1
    rw [if_pos hd, if_pos hd]
    by_cases hb : (s_rem (a + 1) P.n).toNat = i
    · have e0 := f0.2 (by rw [el]; omega)
      rw [if_pos hb, e0]
      simp
    · rw [if_neg hb]
      have e0 : ¬ (s_far P.n (s_last P.n a P.dir) P.dir i).toNat = 0 := fun h => hb (by have := f0.1 h; rw [el] at this; omega)
      by_cases hA : a.toNat = i
      · have e1 := f1.2 (by omega)
        rw [if_pos hA, decide_eq_true e1]
        simp [e0, e1]
      · rw [if_neg hA]
        have e1 : ¬ (((s_far P.n (s_last P.n a P.dir) P.dir i).toNat : Nat) : Int) = P.n - 1 := fun h => hA (by have := f1.1 h; omega)
        rw [decide_eq_false e1, decide_eq_false (by omega)]
        simp
  · have el : s_last P.n a P.dir = a := by unfold s_last; rw [if_neg hd]
    rw [if_neg hd] at f1
    unfold s_x0 s_x1
    rw [if_neg hd, if_neg hd]
    by_cases hb : (s_rem (a + 1) P.n).toNat = i
    · have e1 := f1.2 (by omega)
      have e0 : ¬ (s_far P.n (s_last P.n a P.dir) P.dir i).toNat = 0 := fun h => by
        have := f0.1 h
        rw [el] at this
        split at h1 <;> omega
      rw [if_pos hb, decide_eq_true e1]
      simp [e0, e1]
    · rw [if_neg hb]
      have e1 : ¬ (((s_far P.n (s_last P.n a P.dir) P.dir i).toNat : Nat) : Int) = P.n - 1 := fun h => hb (by have := f1.1 h; omega)
      by_cases hA : a.toNat = i
      · have e0 := f0.2 (by rw [el]; omega)
        rw [if_pos hA, e0]
        simp
      · rw [if_neg hA]
        have e0 : ¬ (s_far P.n (s_last P.n a P.dir) P.dir i).toNat = 0 := fun h => hA (by have := f0.1 h; rw [el] at this; omega)
        rw [decide_eq_false e1, decide_eq_false (by omega)]
        simp
theorem gI4_eq (hok : gOk P (s_last P.n a P.dir) true (P.n - 2).toNat) (ha : 0 ≤ a) (ha2 : a < P.n) : s_gI4 P.n a = mGd P (s_last P.n a P.dir) true 0 := by
  have hn := hok.1
  have hr := rem_lt (a + 1) (show 0 < P.n by omega)
  apply List.ext_getElem (by simp [s_gI4, mGd])
  intro i q1 q2
  have hi : (i : Int) < P.n := by simp [s_gI4] at q1; omega
  obtain ⟨f0, f1⟩ := g2_far hok ha ha2 (i := (i : Int)) (by omega) hi
  simp only [s_gI4, mGd, List.getElem_set, List.getElem_replicate, List.getElem_map, List.getElem_range]
  unfold gIs
  by_cases hd : P.dir = 1
  · have el : s_last P.n a P.dir = s_rem (a + 1) P.n := by unfold s_last; rw [if_pos hd]
    rw [if_pos hd] at f1
    by_cases hb : (s_rem (a + 1) P.n).toNat = i
    · have e0 := f0.2 (by rw [el]; omega)
      rw [if_pos hb, e0]
      simp
    · rw [if_neg hb]
      have e0 : ¬ (s_far P.n (s_last P.n a P.dir) P.dir i).toNat = 0 := fun h => hb (by have := f0.1 h; rw [el] at this; omega)
      by_cases hA : a.toNat = i
      · have e1 := f1.2 (by omega)
        rw [if_pos hA, decide_eq_true e1]
        simp
      · rw [if_neg hA]
        have e1 : ¬ (((s_far P.n (s_last P.n a P.dir) P.dir i).toNat : Nat) : Int) = P.n - 1 := fun h => hA (by have := f1.1 h; omega)
        rw [decide_eq_false e1, decide_eq_false (by omega)]
        simp
  · have el : s_last P.n a P.dir = a := by unfold s_last; rw [if_neg hd]
    rw [if_neg hd] at f1
    by_cases hb : (s_rem (a + 1) P.n).toNat = i
    · have e1 := f1.2 (by omega)
      rw [if_pos hb, decide_eq_true e1]
      simp
    · rw [if_neg hb]
      have e1 : ¬ (((s_far P.n (s_last P.n a P.dir) P.dir i).toNat : Nat) : Int) = P.n - 1 := fun h => hb (by have := f1.1 h; omega)
      by_cases hA : a.toNat = i
      · have e0 := f0.2 (by rw [el]; omega)
        rw [if_pos hA, e0]
        simp
      · rw [if_neg hA]
        have e0 : ¬ (s_far P.n (s_last P.n a P.dir) P.dir i).toNat = 0 := fun h => hA (by have := f0.1 h; rw [el] at this; omega)
        rw [decide_eq_false e1, decide_eq_false (by omega)]
        simp
end
theorem run_two {n dir sl pi a : Int} {sts dvs : List (List AV)} {em : Int → Int → ByteArray → ByteArray} {s s2 : ByteArray} {rows : List (List AV)} (hn : 6 ≤ n) (hn2 : n ≤ 12) (hd : dir = 1 ∨ dir = -1) (ha : 0 ≤ a ∧ a < n)
    (hS : ∀ i, 0 ≤ i → i < n → s_int sts i = 4) (hD : ∀ i, 0 ≤ i → i < n → -(2 * pi) ≤ s_int dvs i ∧ s_int dvs i ≤ 2 * pi)
    (hr : rows = s_gIterS ⟨n, dir, sl, pi, s_wayL n (s_last n a dir) dir (n - 2).toNat, sts, dvs, em⟩ (s_gI3 n a s s2) (s_gI4 n a) 0 (n - 2).toNat) :
    ∃ P : RG, P.n = n ∧ P.dir = dir ∧ P.sl = sl ∧ P.em = em ∧ gOk P (s_last n a dir) true (n - 2).toNat ∧ (∀ k, gN P (s_last n a dir) k = s_node n (s_last n a dir) dir k) ∧ (∀ k, s_int P.sts (gN P (s_last n a dir) k) ≠ 0) ∧ (∀ x, gGrd P (s_last n a dir) x = x) ∧ rows.length = n.toNat ∧
      ∀ i : Int, 0 ≤ i → i < n → rows.getD i.toNat [] = gSide P (s_last n a dir) true (s_x0 dir s s2) (s_x1 dir s s2) (s_far n (s_last n a dir) dir i).toNat := by
  obtain ⟨P, hP⟩ : ∃ P : RG, P = ⟨n, dir, sl, pi, s_wayL n (s_last n a dir) dir (n - 2).toNat, sts, dvs, em⟩ := ⟨_, rfl⟩
  have hl := last_lt (n := n) (dir := dir) (by omega) ha.1 ha.2
  have hok : gOk P (s_last n a dir) true (n - 2).toNat := by
    rw [hP]
    exact ⟨hn, hn2, hd, hl.1, hl.2, rfl, by show (((n - 2).toNat : Nat) : Int) < n; omega, fun _ => by show (((n - 2).toNat : Nat) : Int) + 1 < n; omega⟩
  have Pn : P.n = n := by rw [hP]
  have Pd : P.dir = dir := by rw [hP]
  have hN : ∀ k, gN P (s_last n a dir) k = s_node n (s_last n a dir) dir k := fun k => by show s_node P.n _ P.dir k = _; rw [Pn, Pd]
  have hok' : gOk P (s_last P.n a P.dir) true (P.n - 2).toNat := by rw [Pn, Pd]; exact hok
  have hI1 : s_gI3 n a s s2 = mG P (s_last n a dir) true (s_x0 dir s s2) (s_x1 dir s s2) 0 := by
    have := gI3_eq (s := s) (s2 := s2) hok' ha.1 (by rw [Pn]; exact ha.2)
    rw [Pn, Pd] at this
    exact this
  have hI2 : s_gI4 n a = mGd P (s_last n a dir) true 0 := by
    have := gI4_eq hok' ha.1 (by rw [Pn]; exact ha.2)
    rw [Pn, Pd] at this
    exact this
  rw [← hP] at hr
  refine ⟨P, Pn, Pd, by rw [hP], by rw [hP], hok, hN, fun k => ?_, fun x => ?_, ?_, fun i i0 i1 => ?_⟩
  · have hl := g_lt hok k
    have : s_int P.sts (gN P (s_last n a dir) k) = 4 := by
      rw [show P.sts = sts by rw [hP]]
      exact hS _ hl.1 (by omega)
    omega
  · have hl := g_lt hok 1
    unfold gGrd
    refine guard_in ?_
    rw [show P.dvs = dvs by rw [hP], show P.pi = pi by rw [hP]]
    exact hD _ hl.1 (by omega)
  · rw [hr, g_len (d1 := s_gI4 n a) hok hI1, Pn]
  · have hf := far_lt (n := n) (o := s_last n a dir) (dir := dir) (by omega) i
    have := g_get hok hI1 hI2 (m := (s_far n (s_last n a dir) dir i).toNat) (by
      by_cases h : (s_far n (s_last n a dir) dir i).toNat ≤ (n - 2).toNat
      · exact .inl h
      · exact .inr ⟨rfl, by omega⟩)
    rw [hN, node_far hd hl.1 hl.2 i0 i1] at this
    rw [hr, this]
section
variable {P : RG} {o : Int} {two : Bool} {M : Nat} {hit : Int → Int → Bool} {fr to_ ro at_ : Int}
theorem out_nil (c : Bool) (s : ByteArray) : s_out c (⟨#[]⟩ : ByteArray) s = ⟨#[]⟩ := front_empty (front_out ..)
theorem guard_nil (pi st dv : Int) : s_guard pi st dv (⟨#[]⟩ : ByteArray) = ⟨#[]⟩ := front_empty (guard_front ..)
/-- Where nothing is sent nothing leaves a node but the locus. -/
theorem babble (hok : gOk P o two M) (hE : gEm P hit fr to_ ro) (hh : ∀ i j : Nat, gN P o i ≠ at_ → hit (gN P o i) (gN P o j) = false) (h0 : gN P o 0 ≠ at_) :
    ∀ k : Nat, k ≤ M → gN P o k ≠ at_ → (gO P o two ⟨#[]⟩ ⟨#[]⟩ k).1 = ⟨#[]⟩ := by
  have hO := gO_size (a := ⟨#[]⟩) (b := ⟨#[]⟩) (two := two) hok hE (Nat.zero_le _) (Nat.zero_le _)
  have hn := hok.1
  have main : ∀ k : Nat, k ≤ M → (gN P o k ≠ at_ → (gO P o two ⟨#[]⟩ ⟨#[]⟩ k).1 = ⟨#[]⟩) ∧ (0 < k → gN P o (k - 1) ≠ at_ → (gO P o two ⟨#[]⟩ ⟨#[]⟩ k).2 = ⟨#[]⟩) := by
    intro k
    induction k with
    | zero => intro _; exact ⟨fun _ => rfl, fun h => by omega⟩
    | succ k ih =>
      intro hk
      have hM := hok.2.2.2.2.2.2.1
      have ih := ih (by omega)
      refine ⟨fun hne => ?_, fun _ hne => by rw [Nat.add_sub_cancel] at hne; exact ih.1 hne⟩
      show gOutX P o two (gO P o two ⟨#[]⟩ ⟨#[]⟩ k).1 (gO P o two ⟨#[]⟩ ⟨#[]⟩ k).2 k = ⟨#[]⟩
      have dnil : gDirX P o (gO P o two ⟨#[]⟩ ⟨#[]⟩ k).1 k = ⟨#[]⟩ → gOutX P o two (gO P o two ⟨#[]⟩ ⟨#[]⟩ k).1 (gO P o two ⟨#[]⟩ ⟨#[]⟩ k).2 k = ⟨#[]⟩ := fun hd => by
        unfold gOutX
        rw [hd]
        split
        · rfl
        · exact out_nil _ _
      by_cases k0 : k = 0
      · subst k0
        refine dnil ?_
        unfold gDirX
        rw [if_pos rfl]
        show gGrd P o (gC P o ⟨#[]⟩ 0 1) = _
        rw [gC_pass hok hE (Nat.zero_le _) (.inl (hh 0 1 h0))]
        exact guard_nil ..
      · by_cases ha : gN P o k = at_
        · have hp : gN P o (k - 1) ≠ at_ := fun e => gN_ne hok (i := k - 1) (j := k) (by omega) (by omega) (by omega) (e.trans ha.symm)
          unfold gOutX
          split
          · rfl
          · have hsk : gSkipX P o two (gO P o two ⟨#[]⟩ ⟨#[]⟩ k).2 k = ⟨#[]⟩ := by
              unfold gSkipX
              rw [if_neg k0, ih.2 (by omega) hp, gC_pass hok hE (Nat.zero_le _) (.inl (hh (k - 1) (k + 1) hp))]
              rfl
            rw [hsk, show (decide (0 < k) || decide (P.n ≤ P.sl)) = true by rw [decide_eq_true (by omega)]; rfl, out_com (gDir_cl _ _)]
            exact front_empty (front_com2 _ _)
        · refine dnil ?_
          unfold gDirX
          rw [if_neg k0, ih.1 ha, gC_pass hok hE (Nat.zero_le _) (.inl (hh k (k + 1) ha))]
          rfl
  exact fun k hk h => (main k hk).1 h
end
end Go.Proofs.YtiemjcchlfbglaaGreatE
/- Made configurations with the pairs they get; SpreadPairs: specs. -/
namespace Go.Proofs.YtiemjcchlfbglaaGreatE
open Go
set_option linter.unusedVariables false

def s_prsN (n : Int) (rs : List (List AV)) (m : Nat) : List Int := (rs.take m).map fun r => s_rem ((r.getD 0 AV.gone).toI) (n + 1) - 1
def s_prs (n : Int) (rs : List (List AV)) : List Int := s_prsN n rs 3
def lMakeX : LW := fun vals h Q => match vals, h with
  | [.ptr 0 0, .ptr 1 0, .ptr 2 0, .int .i64 i], [.box [.int .i64 n', .int .i64 pi', .int .i64 e', .int .i64 g', .int .i64 fi', .row nl [.int .i64] rs], .box [.int .i64 z1, .int .i64 z2, .int .i64 z3, .int .i64 z4, .int .i64 z5, .nils], .box [.int .i64 n, .int .i64 pi, .int .i64 e, .int .i64 g, .int .i64 fi, .nils]] =>
    Hyp (i = 0 ∧ 6 ≤ n ∧ n ≤ 12) ∧ ((s_prs n rs = [] → Q (.exit 0) [.ptr 0 0, .ptr 1 0] [.box [.int .i64 z1, .int .i64 z2, .int .i64 z3, .int .i64 z4, .int .i64 z5, .nils], .box [.int .i64 n, .int .i64 pi, .int .i64 e, .int .i64 g, .int .i64 fi, .nils]]) ∧ ∀ ps : List Int, ps = s_prs n rs → Q (.exit 0) [.ptr 0 0, .ptr 1 0] [.box [.int .i64 z1, .int .i64 z2, .int .i64 z3, .int .i64 z4, .int .i64 z5, .nils], .box [.int .i64 n, .int .i64 pi, .int .i64 e, .int .i64 g, .int .i64 fi, .sl 2 0 ps.length], .arr 2 3 [.int .i64] (irow .i64 ps)])
  | [.ptr 0 0, .ptr 1 0, .ptr 2 0, .int .i64 i], [.box [.int .i64 n', .int .i64 pi', .int .i64 e', .int .i64 g', .int .i64 fi', .row nl [.int .i64] rs], .box [.int .i64 z1, .int .i64 z2, .int .i64 z3, .int .i64 z4, .int .i64 z5, .nils], .box [.int .i64 n, .int .i64 pi, .int .i64 e, .int .i64 g, .int .i64 fi, .sl 3 0 m], .arr 2 3 [.int .i64] rows] =>
    (i = m ∧ m ≤ 3 ∧ 6 ≤ n ∧ n ≤ 12 ∧ m ≤ rs.length ∧ rows = irow .i64 (s_prsN n rs m)) ∧ ∀ ps : List Int, ps = s_prs n rs → Q (.exit 0) [.ptr 0 0, .ptr 1 0] [.box [.int .i64 z1, .int .i64 z2, .int .i64 z3, .int .i64 z4, .int .i64 z5, .nils], .box [.int .i64 n, .int .i64 pi, .int .i64 e, .int .i64 g, .int .i64 fi, .sl 2 0 ps.length], .arr 2 3 [.int .i64] (irow .i64 ps)]
  | _, _ => False
def sMakeX : SW := fun args h Q => match args, h with
  | [.agg [.int .i64 n, .int .i64 pi, .int .i64 e, .int .i64 g, .int .i64 fi, .row nl [.int .i64] rs]], [] =>
    ∀ (n' pi' e' g' fi' : Int) (nl' : Bool) (ps : List Int), s_made n' pi' e' g' fi' ps → ps = s_prs n' rs → Q (cf n' pi' e' g' fi' nl' (irow .i64 ps), [])
  | _, _ => False
def sMake9X : SW := fun args h Q => match args, h with
  | [.agg [.int .i64 n0, .int .i64 pi0, .int .i64 e0, .int .i64 g0, .int .i64 fi0, .row nl0 [.int .i64] ps0], .agg [.int .i64 fk, .int .i64 fa, .int .i64 ff, .int .i64 ft, .row nl1 [.int .i64, .int .i64, .str] acts, .row nl2 [.int .i64] ds], .int .i64 round, .int .i64 slot, .bool up, .agg [.int .i64 k, .int .i64 r, .int .i64 sl, .int .i64 pk, .int .i64 pv, .row nl3 [.int .i64, .int .i64] ec], .row nl4 [.int .i64] ns, .bool true], [] =>
    ∀ (n pi e g fi : Int) (nl : Bool) (qs : List Int) (k' a' f' t' : Int) (nl1' nl2' : Bool) (acts' : List (List AV)) (ds' : List Int) (ro sl' dir : Int) (m : Nat) (dv : List Int),
      s_made n pi e g fi qs ∧ s_fok n k' a' f' t' acts' ds' ∧ 0 ≤ ro ∧ ro ≤ 130 ∧ 0 ≤ sl' ∧ sl' < n + qs.length ∧ dir = (if up then 1 else -1) ∧ (m : Int) = n ∧ s_devs pi m dv → qs = s_prs n ps0 →
      (Q (.agg [.int .i64 n, .int .i64 pi, .int .i64 e, .int .i64 g, .int .i64 fi, .row nl [.int .i64] (irow .i64 qs), .int .i64 k', .int .i64 a', .int .i64 f', .int .i64 t', .row nl1' [.int .i64, .int .i64, .str] acts', .row nl2' [.int .i64] (irow .i64 ds'), .int .i64 ro, .int .i64 sl', .int .i64 dir, .nils, .sl 0 0 m, .sl 1 0 m], [.arr 2 3 [.int .i64] (s_rep m 4), .arr 2 3 [.int .i64] (irow .i64 dv)]) ∧
       ∀ rows : List (List AV), rows.length ≤ 2 → s_strs rows → Q (.agg [.int .i64 n, .int .i64 pi, .int .i64 e, .int .i64 g, .int .i64 fi, .row nl [.int .i64] (irow .i64 qs), .int .i64 k', .int .i64 a', .int .i64 f', .int .i64 t', .row nl1' [.int .i64, .int .i64, .str] acts', .row nl2' [.int .i64] (irow .i64 ds'), .int .i64 ro, .int .i64 sl', .int .i64 dir, .sl 0 0 rows.length, .sl 1 0 m, .sl 2 0 m], [.arr 2 9 [.str] rows, .arr 2 3 [.int .i64] (s_rep m 4), .arr 2 3 [.int .i64] (irow .i64 dv)]))
  | _, _ => False
def sOwn2D : SW := fun args h Q => match args, h with
  | [.agg [.int .i64 n, .int .i64 pi, .int .i64 e, .int .i64 g, .int .i64 fi, .row nl [.int .i64] ps], .int .i64 slot], [] => Hyp (6 ≤ n ∧ n ≤ 12 ∧ slot = n ∧ 0 < ps.length ∧ ps.length ≤ 3 ∧ 0 ≤ s_pair ps 0 ∧ s_pair ps 0 < n) ∧ ∀ p : Int, p = s_pair ps 0 → Q (.row false [.int .i64] [[.int .i64 p], [.int .i64 (s_rem (p + 1) n)]], [])
  | _, _ => False
def P0 : Sp := ⟨S1.fn, [(28, 6, lMakeX)]⟩
def P1 : Sp := ⟨(28, sMakeX) :: Y2o.fn, [(9, 11, lMkA), (9, 21, lMkB)]⟩
def P2 : Sp := ⟨(9, sMake9X) :: (20, sOwn2D) :: Z1.fn, []⟩
end Go.Proofs.YtiemjcchlfbglaaGreatE
/- What path mode says of functions, printed by a program of this session; the kernel holds each. -/
namespace Go.Proofs.YtiemjcchlfbglaaGreatE
open Go
set_option maxRecDepth 100000
set_option linter.unusedVariables false
theorem nfMakeX (n pi e g fi : Int) (nl : Bool) (rs : List (List AV)) (Q : AV × List AObj → Prop) : inlW Tryz.prog H0 P0 6 (InO Tryz.prog H0 P0 6 6) 28 [cf n pi e g fi nl rs] [] Q = (
br (s_rem fi (3 : Int) == (0 : Int))
 (((Hyp ((0 : Int) = (0 : Int) ∧
  (6 : Int) ≤ IntKind.i64.wrap ((6 : Int) + s_rem n (7 : Int)) ∧
    IntKind.i64.wrap ((6 : Int) + s_rem n (7 : Int)) ≤ (12 : Int))) ∧
 (((((s_prs (IntKind.i64.wrap ((6 : Int) + s_rem n (7 : Int))) rs = []) →
 Q ((AV.agg
    [AV.int IntKind.i64 (IntKind.i64.wrap ((6 : Int) + s_rem n (7 : Int))),
      AV.int IntKind.i64
        (IntKind.i64.wrap
          (IntKind.i64.wrap
              ((4 : Int) * IntKind.i64.wrap (IntKind.i64.wrap (s_rem e (21 : Int) + s_rem g (21 : Int)) + (1 : Int))) +
            s_rem pi (100 : Int))),
      AV.int IntKind.i64 (s_rem e (21 : Int)), AV.int IntKind.i64 (s_rem g (21 : Int)),
      AV.int IntKind.i64 (IntKind.i64.wrap ((65535 : Int) - s_rem fi (40 : Int))), AV.row true [K.int IntKind.i64] []],
  [])))) ∧
 ((∀ (ps103 : List Int),
 ((ps103 = s_prs (IntKind.i64.wrap ((6 : Int) + s_rem n (7 : Int))) rs) →
 chk ((0 : Nat) + ps103.length ≤ (List.map (fun n => [AV.int IntKind.i64 n]) ps103).length) (Q ((AV.agg
    [AV.int IntKind.i64 (IntKind.i64.wrap ((6 : Int) + s_rem n (7 : Int))),
      AV.int IntKind.i64
        (IntKind.i64.wrap
          (IntKind.i64.wrap
              ((4 : Int) * IntKind.i64.wrap (IntKind.i64.wrap (s_rem e (21 : Int) + s_rem g (21 : Int)) + (1 : Int))) +
            s_rem pi (100 : Int))),
      AV.int IntKind.i64 (s_rem e (21 : Int)), AV.int IntKind.i64 (s_rem g (21 : Int)),
      AV.int IntKind.i64 (IntKind.i64.wrap ((65535 : Int) - s_rem fi (40 : Int))),
      AV.row false [K.int IntKind.i64]
        (List.take ps103.length (List.drop (0 : Nat) (List.map (fun n => [AV.int IntKind.i64 n]) ps103)))],
  []))))))))))
 (((Hyp ((0 : Int) = (0 : Int) ∧
  (6 : Int) ≤ IntKind.i64.wrap ((6 : Int) + s_rem n (7 : Int)) ∧
    IntKind.i64.wrap ((6 : Int) + s_rem n (7 : Int)) ≤ (12 : Int))) ∧
 (((((s_prs (IntKind.i64.wrap ((6 : Int) + s_rem n (7 : Int))) rs = []) →
 Q ((AV.agg
    [AV.int IntKind.i64 (IntKind.i64.wrap ((6 : Int) + s_rem n (7 : Int))),
      AV.int IntKind.i64
        (IntKind.i64.wrap
          (IntKind.i64.wrap
              ((4 : Int) * IntKind.i64.wrap (IntKind.i64.wrap (s_rem e (21 : Int) + s_rem g (21 : Int)) + (1 : Int))) +
            s_rem pi (100 : Int))),
      AV.int IntKind.i64 (s_rem e (21 : Int)), AV.int IntKind.i64 (s_rem g (21 : Int)),
      AV.int IntKind.i64 (s_rem fi (65536 : Int)), AV.row true [K.int IntKind.i64] []],
  [])))) ∧
 ((∀ (ps103 : List Int),
 ((ps103 = s_prs (IntKind.i64.wrap ((6 : Int) + s_rem n (7 : Int))) rs) →
 chk ((0 : Nat) + ps103.length ≤ (List.map (fun n => [AV.int IntKind.i64 n]) ps103).length) (Q ((AV.agg
    [AV.int IntKind.i64 (IntKind.i64.wrap ((6 : Int) + s_rem n (7 : Int))),
      AV.int IntKind.i64
        (IntKind.i64.wrap
          (IntKind.i64.wrap
              ((4 : Int) * IntKind.i64.wrap (IntKind.i64.wrap (s_rem e (21 : Int) + s_rem g (21 : Int)) + (1 : Int))) +
            s_rem pi (100 : Int))),
      AV.int IntKind.i64 (s_rem e (21 : Int)), AV.int IntKind.i64 (s_rem g (21 : Int)),
      AV.int IntKind.i64 (s_rem fi (65536 : Int)),
      AV.row false [K.int IntKind.i64]
        (List.take ps103.length (List.drop (0 : Nat) (List.map (fun n => [AV.int IntKind.i64 n]) ps103)))],
  []))))))))))) := by kernel_rfl
theorem nfMake9X (n0 pi0 e0 g0 fi0 fk fa ff ft round slot k r sl pk pv : Int) (nl0 nl1 nl2 nl3 nl4 up : Bool) (ps0 acts ds ec ns : List (List AV)) (Q : AV × List AObj → Prop) : inlW Tryz.prog H0 P1 6 (InO Tryz.prog H0 P1 6 6) 9 [cf n0 pi0 e0 g0 fi0 nl0 ps0, .agg [.int .i64 fk, .int .i64 fa, .int .i64 ff, .int .i64 ft, .row nl1 [.int .i64, .int .i64, .str] acts, .row nl2 [.int .i64] ds], .int .i64 round, .int .i64 slot, .bool up, .agg [.int .i64 k, .int .i64 r, .int .i64 sl, .int .i64 pk, .int .i64 pv, .row nl3 [.int .i64, .int .i64] ec], .row nl4 [.int .i64] ns, .bool true] [] Q = (
(∀ (n'100 : Int),
(∀ (pi'101 : Int),
(∀ (e'102 : Int),
(∀ (g'103 : Int),
(∀ (fi'104 : Int),
(∀ (nl'105 : Bool),
(∀ (ps106 : List Int),
((s_made n'100 pi'101 e'102 g'103 fi'104 ps106) →
((ps106 = s_prs n'100 ps0) →
((Hyp ((6 : Int) ≤ n'100 ∧ n'100 ≤ (12 : Int))) ∧
((∀ (k'110 : Int),
(∀ (a'111 : Int),
(∀ (f'112 : Int),
(∀ (t'113 : Int),
(∀ (nl1'114 : Bool),
(∀ (nl2'115 : Bool),
(∀ (acts'116 : List (List AV)),
(∀ (ds'117 : List Int),
((s_fok n'100 k'110 a'111 f'112 t'113 acts'116 ds'117) →
chk ((0 : Int) < IntKind.i64.wrap (n'100 + (↑(List.map (fun n => [AV.int IntKind.i64 n]) ps106).length : Int)) ∧
  IntKind.i64.wrap (n'100 + (↑(List.map (fun n => [AV.int IntKind.i64 n]) ps106).length : Int)) <
    (9223372036854775808 : Int)) (br (!up)
 (br (decide (t'113 > f'112))
  (chk ((0 : Int) < IntKind.i64.wrap (t'113 - f'112) ∧ IntKind.i64.wrap (t'113 - f'112) < (9223372036854775808 : Int)) (((Hyp ((6 : Int) ≤ n'100 ∧
  n'100 ≤ (12 : Int) ∧
    (List.map (fun n => [AV.int IntKind.i64 n]) ps106).length ≤ (3 : Nat) ∧
      ∀ (r : List AV), r ∈ irow IntKind.i64 ps106 → ∃ p, r = [AV.int IntKind.i64 p] ∧ (-1 : Int) ≤ p ∧ p < n'100)) ∧
  ((∀ (nl'124 : Bool),
  (∀ (rows125 : List (List AV)),
  ((rows125.length ≤ (2 : Nat)) →
  ((Hyp ((0 : Int) = (0 : Int) ∧
  rows125.length ≤ (2 : Nat) ∧
    (6 : Int) ≤ n'100 ∧ n'100 ≤ (12 : Int) ∧ (List.map (fun n => [AV.int IntKind.i64 n]) ps106).length ≤ (3 : Nat))) ∧
  (((((Hyp ((0 : Int) = (0 : Int) ∧ (6 : Int) ≤ n'100 ∧ n'100 ≤ (12 : Int) ∧ (4 : Int) ≤ pi'101 ∧ pi'101 ≤ (1000 : Int))) ∧
  ((∀ (m'130 : Nat),
  (∀ (dv131 : List Int),
  (((↑m'130 : Int) = n'100) →
  ((s_devs pi'101 m'130 dv131) →
  Q ((AV.agg
    [AV.int IntKind.i64 n'100, AV.int IntKind.i64 pi'101, AV.int IntKind.i64 e'102, AV.int IntKind.i64 g'103,
      AV.int IntKind.i64 fi'104, AV.row nl'105 [K.int IntKind.i64] (List.map (fun n => [AV.int IntKind.i64 n]) ps106),
      AV.int IntKind.i64 k'110, AV.int IntKind.i64 a'111, AV.int IntKind.i64 f'112, AV.int IntKind.i64 t'113,
      AV.row nl1'114 [K.int IntKind.i64, K.int IntKind.i64, K.str] acts'116,
      AV.row nl2'115 [K.int IntKind.i64] (List.map (fun n => [AV.int IntKind.i64 n]) ds'117),
      AV.int IntKind.i64 (IntKind.i64.wrap (f'112 + s_rem round (IntKind.i64.wrap (t'113 - f'112)))),
      AV.int IntKind.i64
        (s_rem slot (IntKind.i64.wrap (n'100 + (↑(List.map (fun n => [AV.int IntKind.i64 n]) ps106).length : Int)))),
      AV.int IntKind.i64 (-1 : Int), AV.nils, AV.sl (0 : Nat) (0 : Nat) m'130, AV.sl (1 : Nat) (0 : Nat) m'130],
  [AObj.arr (2 : Nat) (3 : Nat) [K.int IntKind.i64] (s_rep m'130 (4 : Int)),
    AObj.arr (2 : Nat) (3 : Nat) [K.int IntKind.i64] (List.map (fun n => [AV.int IntKind.i64 n]) dv131)]))))))))) ∧
  ((∀ (rows129 : List (List AV)),
  ((rows129.length ≤ (2 : Nat)) →
  ((s_strs rows129) →
  ((Hyp ((0 : Int) = (0 : Int) ∧ (6 : Int) ≤ n'100 ∧ n'100 ≤ (12 : Int) ∧ (4 : Int) ≤ pi'101 ∧ pi'101 ≤ (1000 : Int))) ∧
  ((∀ (m'133 : Nat),
  (∀ (dv134 : List Int),
  (((↑m'133 : Int) = n'100) →
  ((s_devs pi'101 m'133 dv134) →
  Q ((AV.agg
    [AV.int IntKind.i64 n'100, AV.int IntKind.i64 pi'101, AV.int IntKind.i64 e'102, AV.int IntKind.i64 g'103,
      AV.int IntKind.i64 fi'104, AV.row nl'105 [K.int IntKind.i64] (List.map (fun n => [AV.int IntKind.i64 n]) ps106),
      AV.int IntKind.i64 k'110, AV.int IntKind.i64 a'111, AV.int IntKind.i64 f'112, AV.int IntKind.i64 t'113,
      AV.row nl1'114 [K.int IntKind.i64, K.int IntKind.i64, K.str] acts'116,
      AV.row nl2'115 [K.int IntKind.i64] (List.map (fun n => [AV.int IntKind.i64 n]) ds'117),
      AV.int IntKind.i64 (IntKind.i64.wrap (f'112 + s_rem round (IntKind.i64.wrap (t'113 - f'112)))),
      AV.int IntKind.i64
        (s_rem slot (IntKind.i64.wrap (n'100 + (↑(List.map (fun n => [AV.int IntKind.i64 n]) ps106).length : Int)))),
      AV.int IntKind.i64 (-1 : Int), AV.sl (0 : Nat) (0 : Nat) rows129.length, AV.sl (1 : Nat) (0 : Nat) m'133,
      AV.sl (2 : Nat) (0 : Nat) m'133],
  [AObj.arr (2 : Nat) (9 : Nat) [K.str] rows129,
    AObj.arr (2 : Nat) (3 : Nat) [K.int IntKind.i64] (s_rep m'133 (4 : Int)),
    AObj.arr (2 : Nat) (3 : Nat) [K.int IntKind.i64] (List.map (fun n => [AV.int IntKind.i64 n]) dv134)]))))))))))))))))))))))
  (((Hyp ((6 : Int) ≤ n'100 ∧
  n'100 ≤ (12 : Int) ∧
    (List.map (fun n => [AV.int IntKind.i64 n]) ps106).length ≤ (3 : Nat) ∧
      ∀ (r : List AV), r ∈ irow IntKind.i64 ps106 → ∃ p, r = [AV.int IntKind.i64 p] ∧ (-1 : Int) ≤ p ∧ p < n'100)) ∧
  ((∀ (nl'123 : Bool),
  (∀ (rows124 : List (List AV)),
  ((rows124.length ≤ (2 : Nat)) →
  ((Hyp ((0 : Int) = (0 : Int) ∧
  rows124.length ≤ (2 : Nat) ∧
    (6 : Int) ≤ n'100 ∧ n'100 ≤ (12 : Int) ∧ (List.map (fun n => [AV.int IntKind.i64 n]) ps106).length ≤ (3 : Nat))) ∧
  (((((Hyp ((0 : Int) = (0 : Int) ∧ (6 : Int) ≤ n'100 ∧ n'100 ≤ (12 : Int) ∧ (4 : Int) ≤ pi'101 ∧ pi'101 ≤ (1000 : Int))) ∧
  ((∀ (m'129 : Nat),
  (∀ (dv130 : List Int),
  (((↑m'129 : Int) = n'100) →
  ((s_devs pi'101 m'129 dv130) →
  Q ((AV.agg
    [AV.int IntKind.i64 n'100, AV.int IntKind.i64 pi'101, AV.int IntKind.i64 e'102, AV.int IntKind.i64 g'103,
      AV.int IntKind.i64 fi'104, AV.row nl'105 [K.int IntKind.i64] (List.map (fun n => [AV.int IntKind.i64 n]) ps106),
      AV.int IntKind.i64 k'110, AV.int IntKind.i64 a'111, AV.int IntKind.i64 f'112, AV.int IntKind.i64 t'113,
      AV.row nl1'114 [K.int IntKind.i64, K.int IntKind.i64, K.str] acts'116,
      AV.row nl2'115 [K.int IntKind.i64] (List.map (fun n => [AV.int IntKind.i64 n]) ds'117),
      AV.int IntKind.i64 (s_rem round (130 : Int)),
      AV.int IntKind.i64
        (s_rem slot (IntKind.i64.wrap (n'100 + (↑(List.map (fun n => [AV.int IntKind.i64 n]) ps106).length : Int)))),
      AV.int IntKind.i64 (-1 : Int), AV.nils, AV.sl (0 : Nat) (0 : Nat) m'129, AV.sl (1 : Nat) (0 : Nat) m'129],
  [AObj.arr (2 : Nat) (3 : Nat) [K.int IntKind.i64] (s_rep m'129 (4 : Int)),
    AObj.arr (2 : Nat) (3 : Nat) [K.int IntKind.i64] (List.map (fun n => [AV.int IntKind.i64 n]) dv130)]))))))))) ∧
  ((∀ (rows128 : List (List AV)),
  ((rows128.length ≤ (2 : Nat)) →
  ((s_strs rows128) →
  ((Hyp ((0 : Int) = (0 : Int) ∧ (6 : Int) ≤ n'100 ∧ n'100 ≤ (12 : Int) ∧ (4 : Int) ≤ pi'101 ∧ pi'101 ≤ (1000 : Int))) ∧
  ((∀ (m'132 : Nat),
  (∀ (dv133 : List Int),
  (((↑m'132 : Int) = n'100) →
  ((s_devs pi'101 m'132 dv133) →
  Q ((AV.agg
    [AV.int IntKind.i64 n'100, AV.int IntKind.i64 pi'101, AV.int IntKind.i64 e'102, AV.int IntKind.i64 g'103,
      AV.int IntKind.i64 fi'104, AV.row nl'105 [K.int IntKind.i64] (List.map (fun n => [AV.int IntKind.i64 n]) ps106),
      AV.int IntKind.i64 k'110, AV.int IntKind.i64 a'111, AV.int IntKind.i64 f'112, AV.int IntKind.i64 t'113,
      AV.row nl1'114 [K.int IntKind.i64, K.int IntKind.i64, K.str] acts'116,
      AV.row nl2'115 [K.int IntKind.i64] (List.map (fun n => [AV.int IntKind.i64 n]) ds'117),
      AV.int IntKind.i64 (s_rem round (130 : Int)),
      AV.int IntKind.i64
        (s_rem slot (IntKind.i64.wrap (n'100 + (↑(List.map (fun n => [AV.int IntKind.i64 n]) ps106).length : Int)))),
      AV.int IntKind.i64 (-1 : Int), AV.sl (0 : Nat) (0 : Nat) rows128.length, AV.sl (1 : Nat) (0 : Nat) m'132,
      AV.sl (2 : Nat) (0 : Nat) m'132],
  [AObj.arr (2 : Nat) (9 : Nat) [K.str] rows128,
    AObj.arr (2 : Nat) (3 : Nat) [K.int IntKind.i64] (s_rep m'132 (4 : Int)),
    AObj.arr (2 : Nat) (3 : Nat) [K.int IntKind.i64] (List.map (fun n => [AV.int IntKind.i64 n]) dv133)]))))))))))))))))))))))
 (br (decide (t'113 > f'112))
  (chk ((0 : Int) < IntKind.i64.wrap (t'113 - f'112) ∧ IntKind.i64.wrap (t'113 - f'112) < (9223372036854775808 : Int)) (((Hyp ((6 : Int) ≤ n'100 ∧
  n'100 ≤ (12 : Int) ∧
    (List.map (fun n => [AV.int IntKind.i64 n]) ps106).length ≤ (3 : Nat) ∧
      ∀ (r : List AV), r ∈ irow IntKind.i64 ps106 → ∃ p, r = [AV.int IntKind.i64 p] ∧ (-1 : Int) ≤ p ∧ p < n'100)) ∧
  ((∀ (nl'124 : Bool),
  (∀ (rows125 : List (List AV)),
  ((rows125.length ≤ (2 : Nat)) →
  ((Hyp ((0 : Int) = (0 : Int) ∧
  rows125.length ≤ (2 : Nat) ∧
    (6 : Int) ≤ n'100 ∧ n'100 ≤ (12 : Int) ∧ (List.map (fun n => [AV.int IntKind.i64 n]) ps106).length ≤ (3 : Nat))) ∧
  (((((Hyp ((0 : Int) = (0 : Int) ∧ (6 : Int) ≤ n'100 ∧ n'100 ≤ (12 : Int) ∧ (4 : Int) ≤ pi'101 ∧ pi'101 ≤ (1000 : Int))) ∧
  ((∀ (m'130 : Nat),
  (∀ (dv131 : List Int),
  (((↑m'130 : Int) = n'100) →
  ((s_devs pi'101 m'130 dv131) →
  Q ((AV.agg
    [AV.int IntKind.i64 n'100, AV.int IntKind.i64 pi'101, AV.int IntKind.i64 e'102, AV.int IntKind.i64 g'103,
      AV.int IntKind.i64 fi'104, AV.row nl'105 [K.int IntKind.i64] (List.map (fun n => [AV.int IntKind.i64 n]) ps106),
      AV.int IntKind.i64 k'110, AV.int IntKind.i64 a'111, AV.int IntKind.i64 f'112, AV.int IntKind.i64 t'113,
      AV.row nl1'114 [K.int IntKind.i64, K.int IntKind.i64, K.str] acts'116,
      AV.row nl2'115 [K.int IntKind.i64] (List.map (fun n => [AV.int IntKind.i64 n]) ds'117),
      AV.int IntKind.i64 (IntKind.i64.wrap (f'112 + s_rem round (IntKind.i64.wrap (t'113 - f'112)))),
      AV.int IntKind.i64
        (s_rem slot (IntKind.i64.wrap (n'100 + (↑(List.map (fun n => [AV.int IntKind.i64 n]) ps106).length : Int)))),
      AV.int IntKind.i64 (1 : Int), AV.nils, AV.sl (0 : Nat) (0 : Nat) m'130, AV.sl (1 : Nat) (0 : Nat) m'130],
  [AObj.arr (2 : Nat) (3 : Nat) [K.int IntKind.i64] (s_rep m'130 (4 : Int)),
    AObj.arr (2 : Nat) (3 : Nat) [K.int IntKind.i64] (List.map (fun n => [AV.int IntKind.i64 n]) dv131)]))))))))) ∧
  ((∀ (rows129 : List (List AV)),
  ((rows129.length ≤ (2 : Nat)) →
  ((s_strs rows129) →
  ((Hyp ((0 : Int) = (0 : Int) ∧ (6 : Int) ≤ n'100 ∧ n'100 ≤ (12 : Int) ∧ (4 : Int) ≤ pi'101 ∧ pi'101 ≤ (1000 : Int))) ∧
  ((∀ (m'133 : Nat),
  (∀ (dv134 : List Int),
  (((↑m'133 : Int) = n'100) →
  ((s_devs pi'101 m'133 dv134) →
  Q ((AV.agg
    [AV.int IntKind.i64 n'100, AV.int IntKind.i64 pi'101, AV.int IntKind.i64 e'102, AV.int IntKind.i64 g'103,
      AV.int IntKind.i64 fi'104, AV.row nl'105 [K.int IntKind.i64] (List.map (fun n => [AV.int IntKind.i64 n]) ps106),
      AV.int IntKind.i64 k'110, AV.int IntKind.i64 a'111, AV.int IntKind.i64 f'112, AV.int IntKind.i64 t'113,
      AV.row nl1'114 [K.int IntKind.i64, K.int IntKind.i64, K.str] acts'116,
      AV.row nl2'115 [K.int IntKind.i64] (List.map (fun n => [AV.int IntKind.i64 n]) ds'117),
      AV.int IntKind.i64 (IntKind.i64.wrap (f'112 + s_rem round (IntKind.i64.wrap (t'113 - f'112)))),
      AV.int IntKind.i64
        (s_rem slot (IntKind.i64.wrap (n'100 + (↑(List.map (fun n => [AV.int IntKind.i64 n]) ps106).length : Int)))),
      AV.int IntKind.i64 (1 : Int), AV.sl (0 : Nat) (0 : Nat) rows129.length, AV.sl (1 : Nat) (0 : Nat) m'133,
      AV.sl (2 : Nat) (0 : Nat) m'133],
  [AObj.arr (2 : Nat) (9 : Nat) [K.str] rows129,
    AObj.arr (2 : Nat) (3 : Nat) [K.int IntKind.i64] (s_rep m'133 (4 : Int)),
    AObj.arr (2 : Nat) (3 : Nat) [K.int IntKind.i64] (List.map (fun n => [AV.int IntKind.i64 n]) dv134)]))))))))))))))))))))))
  (((Hyp ((6 : Int) ≤ n'100 ∧
  n'100 ≤ (12 : Int) ∧
    (List.map (fun n => [AV.int IntKind.i64 n]) ps106).length ≤ (3 : Nat) ∧
      ∀ (r : List AV), r ∈ irow IntKind.i64 ps106 → ∃ p, r = [AV.int IntKind.i64 p] ∧ (-1 : Int) ≤ p ∧ p < n'100)) ∧
  ((∀ (nl'123 : Bool),
  (∀ (rows124 : List (List AV)),
  ((rows124.length ≤ (2 : Nat)) →
  ((Hyp ((0 : Int) = (0 : Int) ∧
  rows124.length ≤ (2 : Nat) ∧
    (6 : Int) ≤ n'100 ∧ n'100 ≤ (12 : Int) ∧ (List.map (fun n => [AV.int IntKind.i64 n]) ps106).length ≤ (3 : Nat))) ∧
  (((((Hyp ((0 : Int) = (0 : Int) ∧ (6 : Int) ≤ n'100 ∧ n'100 ≤ (12 : Int) ∧ (4 : Int) ≤ pi'101 ∧ pi'101 ≤ (1000 : Int))) ∧
  ((∀ (m'129 : Nat),
  (∀ (dv130 : List Int),
  (((↑m'129 : Int) = n'100) →
  ((s_devs pi'101 m'129 dv130) →
  Q ((AV.agg
    [AV.int IntKind.i64 n'100, AV.int IntKind.i64 pi'101, AV.int IntKind.i64 e'102, AV.int IntKind.i64 g'103,
      AV.int IntKind.i64 fi'104, AV.row nl'105 [K.int IntKind.i64] (List.map (fun n => [AV.int IntKind.i64 n]) ps106),
      AV.int IntKind.i64 k'110, AV.int IntKind.i64 a'111, AV.int IntKind.i64 f'112, AV.int IntKind.i64 t'113,
      AV.row nl1'114 [K.int IntKind.i64, K.int IntKind.i64, K.str] acts'116,
      AV.row nl2'115 [K.int IntKind.i64] (List.map (fun n => [AV.int IntKind.i64 n]) ds'117),
      AV.int IntKind.i64 (s_rem round (130 : Int)),
      AV.int IntKind.i64
        (s_rem slot (IntKind.i64.wrap (n'100 + (↑(List.map (fun n => [AV.int IntKind.i64 n]) ps106).length : Int)))),
      AV.int IntKind.i64 (1 : Int), AV.nils, AV.sl (0 : Nat) (0 : Nat) m'129, AV.sl (1 : Nat) (0 : Nat) m'129],
  [AObj.arr (2 : Nat) (3 : Nat) [K.int IntKind.i64] (s_rep m'129 (4 : Int)),
    AObj.arr (2 : Nat) (3 : Nat) [K.int IntKind.i64] (List.map (fun n => [AV.int IntKind.i64 n]) dv130)]))))))))) ∧
  ((∀ (rows128 : List (List AV)),
  ((rows128.length ≤ (2 : Nat)) →
  ((s_strs rows128) →
  ((Hyp ((0 : Int) = (0 : Int) ∧ (6 : Int) ≤ n'100 ∧ n'100 ≤ (12 : Int) ∧ (4 : Int) ≤ pi'101 ∧ pi'101 ≤ (1000 : Int))) ∧
  ((∀ (m'132 : Nat),
  (∀ (dv133 : List Int),
  (((↑m'132 : Int) = n'100) →
  ((s_devs pi'101 m'132 dv133) →
  Q ((AV.agg
    [AV.int IntKind.i64 n'100, AV.int IntKind.i64 pi'101, AV.int IntKind.i64 e'102, AV.int IntKind.i64 g'103,
      AV.int IntKind.i64 fi'104, AV.row nl'105 [K.int IntKind.i64] (List.map (fun n => [AV.int IntKind.i64 n]) ps106),
      AV.int IntKind.i64 k'110, AV.int IntKind.i64 a'111, AV.int IntKind.i64 f'112, AV.int IntKind.i64 t'113,
      AV.row nl1'114 [K.int IntKind.i64, K.int IntKind.i64, K.str] acts'116,
      AV.row nl2'115 [K.int IntKind.i64] (List.map (fun n => [AV.int IntKind.i64 n]) ds'117),
      AV.int IntKind.i64 (s_rem round (130 : Int)),
      AV.int IntKind.i64
        (s_rem slot (IntKind.i64.wrap (n'100 + (↑(List.map (fun n => [AV.int IntKind.i64 n]) ps106).length : Int)))),
      AV.int IntKind.i64 (1 : Int), AV.sl (0 : Nat) (0 : Nat) rows128.length, AV.sl (1 : Nat) (0 : Nat) m'132,
      AV.sl (2 : Nat) (0 : Nat) m'132],
  [AObj.arr (2 : Nat) (9 : Nat) [K.str] rows128,
    AObj.arr (2 : Nat) (3 : Nat) [K.int IntKind.i64] (s_rep m'132 (4 : Int)),
    AObj.arr (2 : Nat) (3 : Nat) [K.int IntKind.i64] (List.map (fun n => [AV.int IntKind.i64 n]) dv133)])))))))))))))))))))))))))))))))))))))))))))) := by kernel_rfl
end Go.Proofs.YtiemjcchlfbglaaGreatE
/- Made configurations with the pairs they get: the specs hold. -/
namespace Go.Proofs.YtiemjcchlfbglaaGreatE
open Go
set_option linter.unusedVariables false
set_option linter.unusedSimpArgs false
set_option maxRecDepth 100000

theorem prs_ok {n : Int} (hn : 0 < n) (rs : List (List AV)) : (s_prs n rs).length ≤ 3 ∧ ∀ p ∈ s_prs n rs, -1 ≤ p ∧ p < n := by
  unfold s_prs s_prsN
  refine ⟨by rw [List.length_map, List.length_take]; omega, fun p hp => ?_⟩
  obtain ⟨r, _, rfl⟩ := List.mem_map.1 hp
  have := rem_lt ((r.getD 0 AV.gone).toI) (show 0 < n + 1 by omega)
  omega
theorem prs_succ {n : Int} {rs : List (List AV)} {m : Nat} (h : m < rs.length) : s_prsN n rs (m + 1) = s_prsN n rs m ++ [s_rem ((rs.getD m []).getD 0 AV.gone).toI (n + 1) - 1] := by
  have e : rs.getD m [] = rs[m] := by rw [List.getD_eq_getElem?_getD, List.getElem?_eq_getElem h]; rfl
  unfold s_prsN
  rw [List.take_add_one, List.getElem?_eq_getElem h, e, List.map_append]
  rfl
theorem prs_len {n : Int} {rs : List (List AV)} {m : Nat} (h : m ≤ rs.length) : (s_prsN n rs m).length = m := by
  unfold s_prsN
  rw [List.length_map, List.length_take]; omega
theorem prs_end {n : Int} {rs : List (List AV)} {m : Nat} (h : m = 3 ∨ m = rs.length ∧ m ≤ 3) : s_prsN n rs m = s_prs n rs := by
  unfold s_prs s_prsN
  rcases h with rfl | ⟨rfl, h⟩
  · rfl
  · rw [List.take_length, List.take_of_length_le h]
theorem okLMakeX : OkLp Tryz.prog H0 28 6 lMakeX := by
  refine okLp_of (U := 6) (k := 6) okS1 lMakeX (fun vals _ => match vals with | [_, _, _, .int _ i] => (3 - i).toNat | _ => 0) fun vals h Q hl => ?_
  unfold lMakeX at hl
  split at hl
  · rename_i i n' pi' e' g' fi' nl rs z1 z2 z3 z4 z5 n pi e g fi
    obtain ⟨⟨h0, h1, h2⟩, hq1, hq2⟩ := hyp_iff.1 hl
    subst h0
    refine to (nfMakea ..) ?_
    have w1 : IntKind.i64.wrap (n + 1) = n + 1 := wr (by omega) (by omega)
    rw [w1]
    refine br_intro (fun hc => br_intro (fun hc2 => ?_) fun hc2 => ?_) fun hc => ?_
    · have hc := of_decide_eq_true hc
      refine chk_iff.2 ⟨⟨by omega, hc⟩, chk_iff.2 ⟨by omega, ?_⟩⟩
      have hr := rem_lt ((rs.getD (0 : Int).toNat []).getD 0 AV.gone).toI (show 0 < n + 1 by omega)
      have w2 : IntKind.i64.wrap ((0 : Int) + 1) = ((1 : Nat) : Int) := by decide
      have w3 : IntKind.i64.wrap (s_rem ((rs.getD (0 : Int).toNat []).getD 0 AV.gone).toI (n + 1) - 1) = s_rem ((rs.getD (0 : Int).toNat []).getD 0 AV.gone).toI (n + 1) - 1 := wr (by omega) (by omega)
      rw [w2, w3]
      refine ⟨by show (3 - 1 : Int).toNat < (3 - 0 : Int).toNat; decide, ⟨rfl, by omega, h1, h2, by omega, ?_⟩, hq2⟩
      have := prs_succ (n := n) (rs := rs) (m := 0) (by omega)
      rw [this]
      rfl
    · exact absurd hc2 (by simp)
    · have hc := of_decide_eq_false hc
      have : rs = [] := List.eq_nil_of_length_eq_zero (by omega)
      exact hq1 (by rw [this]; rfl)
  · rename_i i n' pi' e' g' fi' nl rs z1 z2 z3 z4 z5 n pi e g fi m rows
    obtain ⟨⟨h0, hm, h1, h2, hml, rfl⟩, hq2⟩ := hl
    subst h0
    have hqs := prs_len (n := n) hml
    refine to (nfMakeb ..) ?_
    have w1 : IntKind.i64.wrap (n + 1) = n + 1 := wr (by omega) (by omega)
    rw [w1]
    have w2 : IntKind.i64.wrap ((m : Int) + 1) = ((m + 1 : Nat) : Int) := wr (by omega) (by omega)
    have fin : (m = 3 ∨ m = rs.length ∧ m ≤ 3) → Q (.exit 0) [.ptr 0 0, .ptr 1 0] [.box [.int .i64 z1, .int .i64 z2, .int .i64 z3, .int .i64 z4, .int .i64 z5, .nils], .box [.int .i64 n, .int .i64 pi, .int .i64 e, .int .i64 g, .int .i64 fi, .sl 2 0 m], .arr 2 3 [.int .i64] (irow .i64 (s_prsN n rs m))] := fun h => by
      have := hq2 _ (prs_end (n := n) (rs := rs) h)
      rw [hqs] at this
      exact this
    refine br_intro (fun hc => br_intro (fun hc2 => ?_) fun hc2 => fin (.inl ?_)) fun hc => fin (.inr ⟨by have := of_decide_eq_false hc; omega, hm⟩)
    · have hc := of_decide_eq_true hc
      have hc2 := of_decide_eq_true hc2
      have hr := rem_lt ((rs.getD (m : Int).toNat []).getD 0 AV.gone).toI (show 0 < n + 1 by omega)
      have w3 : IntKind.i64.wrap (s_rem ((rs.getD (m : Int).toNat []).getD 0 AV.gone).toI (n + 1) - 1) = s_rem ((rs.getD (m : Int).toNat []).getD 0 AV.gone).toI (n + 1) - 1 := wr (by omega) (by omega)
      refine chk_iff.2 ⟨⟨by omega, hc⟩, chk_iff.2 ⟨by omega, ?_⟩⟩
      rw [irow_len]
      refine chk_iff.2 ⟨hqs.symm, chk_iff.2 ⟨by omega, chk_iff.2 ⟨by omega, ?_⟩⟩⟩
      rw [w2, w3, hqs]
      refine ⟨by show (3 - ((m + 1 : Nat) : Int)).toNat < (3 - (m : Int)).toNat; omega, ⟨rfl, by omega, h1, h2, by omega, ?_⟩, hq2⟩
      rw [prs_succ (by omega), Int.toNat_natCast]
      simp [irow]
    · have := of_decide_eq_false hc2
      omega
  · exact hl.elim
theorem okP0 : OkSp Tryz.prog H0 P0 := ⟨okS1.fn, okLMakeX, trivial⟩
theorem okMakeX : OkS Tryz.prog H0 28 sMakeX := by
  intro args h Q hq
  unfold sMakeX at hq
  split at hq
  · rename_i n pi e g fi nl rs
    refine in_ok (S := P0) (U := 6) (k := 6) okP0 (to (nfMakeX ..) ?_)
    have r1 := rem_lt n (show (0 : Int) < 7 by omega)
    have r2 := rem_lt e (show (0 : Int) < 21 by omega)
    have r3 := rem_lt g (show (0 : Int) < 21 by omega)
    have r4 := rem_lt pi (show (0 : Int) < 100 by omega)
    have r5 := rem_lt fi (show (0 : Int) < 40 by omega)
    have r6 := rem_lt fi (show (0 : Int) < 65536 by omega)
    rw [wr (x := 6 + s_rem n 7) (by omega) (by omega), wr (x := s_rem e 21 + s_rem g 21) (by omega) (by omega), wr (x := s_rem e 21 + s_rem g 21 + 1) (by omega) (by omega), wr (x := 4 * (s_rem e 21 + s_rem g 21 + 1)) (by omega) (by omega),
      wr (x := 4 * (s_rem e 21 + s_rem g 21 + 1) + s_rem pi 100) (by omega) (by omega), wr (x := 65535 - s_rem fi 40) (by omega) (by omega)]
    have take : ∀ ps : List Int, List.take ps.length (List.drop 0 (List.map (fun n => [AV.int IntKind.i64 n]) ps)) = irow .i64 ps := fun ps => by
      rw [List.drop_zero, List.take_of_length_le (by simp)]; rfl
    have fin0 : ∀ fi' : Int, 0 ≤ fi' → fi' ≤ 65535 → s_prs (6 + s_rem n 7) rs = [] → Q (cf (6 + s_rem n 7) (4 * (s_rem e 21 + s_rem g 21 + 1) + s_rem pi 100) (s_rem e 21) (s_rem g 21) fi' true [], []) := fun fi' f0 f1 h => by
      have := hq (6 + s_rem n 7) (4 * (s_rem e 21 + s_rem g 21 + 1) + s_rem pi 100) (s_rem e 21) (s_rem g 21) fi' true [] ⟨by omega, by omega, by omega, by omega, by omega, by omega, f0, f1, by omega, by omega, by simp, by simp⟩ h.symm
      exact this
    have fin1 : ∀ fi' : Int, 0 ≤ fi' → fi' ≤ 65535 → ∀ ps, ps = s_prs (6 + s_rem n 7) rs → Q (cf (6 + s_rem n 7) (4 * (s_rem e 21 + s_rem g 21 + 1) + s_rem pi 100) (s_rem e 21) (s_rem g 21) fi' false (irow .i64 ps), []) := fun fi' f0 f1 ps h => by
      have hp := prs_ok (n := 6 + s_rem n 7) (by omega) rs
      rw [← h] at hp
      exact hq _ _ _ _ _ false ps ⟨by omega, by omega, by omega, by omega, by omega, by omega, f0, f1, by omega, by omega, hp.1, hp.2⟩ h
    refine br_intro (fun _ => hyp_iff.2 ⟨⟨rfl, by omega, by omega⟩, fun h => ?_, fun ps h => chk_iff.2 ⟨by simp, ?_⟩⟩) fun _ => hyp_iff.2 ⟨⟨rfl, by omega, by omega⟩, fun h => ?_, fun ps h => chk_iff.2 ⟨by simp, ?_⟩⟩
    · exact fin0 _ (by omega) (by omega) h
    · rw [take]; exact fin1 _ (by omega) (by omega) ps h
    · exact fin0 _ (by omega) (by omega) h
    · rw [take]; exact fin1 _ (by omega) (by omega) ps h
  · exact hq.elim
theorem okP1 : OkSp Tryz.prog H0 P1 := ⟨⟨okMakeX, okY2o.fn⟩, okLMkA, okLMkB, trivial⟩
theorem okMake9X : OkS Tryz.prog H0 9 sMake9X := by
  intro args h Q hq
  unfold sMake9X at hq
  split at hq
  · rename_i n0 pi0 e0 g0 fi0 nl0 ps0 fk fa ff ft nl1 acts nl2 ds round slot up k r sl pk pv nl3 ec nl4 ns
    refine in_ok (S := P1) (U := 6) (k := 6) okP1 (to (nfMake9X ..) ?_)
    intro n pi e g fi nl qs hmd hqs
    have n1 := hmd.1
    have n2 := hmd.2.1
    have hp := madeR hmd
    have hql : qs.length ≤ 3 := by unfold s_made at hmd; omega
    have hqb : ∀ r ∈ irow .i64 qs, ∃ p : Int, r = [.int .i64 p] ∧ -1 ≤ p ∧ p < n := fun r hr => by
      obtain ⟨p, hp, rfl⟩ := List.mem_map.1 hr
      have := hmd.2.2.2.2.2.2.2.2.2.2.2 p hp
      exact ⟨p, rfl, this⟩
    refine hyp_iff.2 ⟨⟨n1, n2⟩, fun k' a' f' t' nl1' nl2' acts' ds' hf => ?_⟩
    have hf2 : 0 ≤ f' ∧ f' < 60 ∧ f' ≤ t' ∧ t' < f' + 60 := by unfold s_fok at hf; omega
    have hlen : (List.map (fun n => [AV.int IntKind.i64 n]) qs).length = qs.length := List.length_map ..
    have wn : IntKind.i64.wrap (n + (qs.length : Int)) = n + qs.length := wr (by omega) (by omega)
    have wt : IntKind.i64.wrap (t' - f') = t' - f' := wr (by omega) (by omega)
    have hs := rem_lt slot (show 0 < n + (qs.length : Int) by omega)
    have h130 := rem_lt round (show (0 : Int) < 130 by omega)
    rw [hlen, wn, wt, chk_iff]
    have fin : ∀ (ro dir : Int), 0 ≤ ro → ro ≤ 130 → dir = (if up then 1 else -1) → ∀ (m : Nat) (dv : List Int), (m : Int) = n → s_devs pi m dv → _ := fun ro dir a1 a2 a3 m dv a4 a5 =>
      hq n pi e g fi nl qs k' a' f' t' nl1' nl2' acts' ds' ro (s_rem slot (n + qs.length)) dir m dv ⟨hmd, hf, a1, a2, hs.1, hs.2, a3, a4, a5⟩ hqs
    refine ⟨⟨by omega, by omega⟩, br_intro (fun u => br_intro (fun c => ?_) fun c => ?_) fun u => br_intro (fun c => ?_) fun c => ?_⟩
    · have c := of_decide_eq_true c
      have hr := rem_lt round (show 0 < t' - f' by omega)
      have u : up = false := by simpa using u
      rw [wr (x := f' + s_rem round (t' - f')) (by omega) (by omega), chk_iff]
      exact ⟨⟨by omega, by omega⟩, hyp_iff.2 ⟨⟨n1, n2, hql, hqb⟩, fun nlo os hos => hyp_iff.2 ⟨⟨rfl, hos, n1, n2, hql⟩, hyp_iff.2 ⟨⟨rfl, n1, n2, hp⟩, fun m dv a b => (fin _ _ (by omega) (by omega) (by rw [u]; rfl) m dv a b).1⟩, fun rows r1 r2 => hyp_iff.2 ⟨⟨rfl, n1, n2, hp⟩, fun m dv a b => (fin _ _ (by omega) (by omega) (by rw [u]; rfl) m dv a b).2 rows r1 r2⟩⟩⟩⟩
    · have u : up = false := by simpa using u
      exact hyp_iff.2 ⟨⟨n1, n2, hql, hqb⟩, fun nlo os hos => hyp_iff.2 ⟨⟨rfl, hos, n1, n2, hql⟩, hyp_iff.2 ⟨⟨rfl, n1, n2, hp⟩, fun m dv a b => (fin _ _ (by omega) (by omega) (by rw [u]; rfl) m dv a b).1⟩, fun rows r1 r2 => hyp_iff.2 ⟨⟨rfl, n1, n2, hp⟩, fun m dv a b => (fin _ _ (by omega) (by omega) (by rw [u]; rfl) m dv a b).2 rows r1 r2⟩⟩⟩
    · have c := of_decide_eq_true c
      have hr := rem_lt round (show 0 < t' - f' by omega)
      have u : up = true := by simpa using u
      rw [wr (x := f' + s_rem round (t' - f')) (by omega) (by omega), chk_iff]
      exact ⟨⟨by omega, by omega⟩, hyp_iff.2 ⟨⟨n1, n2, hql, hqb⟩, fun nlo os hos => hyp_iff.2 ⟨⟨rfl, hos, n1, n2, hql⟩, hyp_iff.2 ⟨⟨rfl, n1, n2, hp⟩, fun m dv a b => (fin _ _ (by omega) (by omega) (by rw [u]; rfl) m dv a b).1⟩, fun rows r1 r2 => hyp_iff.2 ⟨⟨rfl, n1, n2, hp⟩, fun m dv a b => (fin _ _ (by omega) (by omega) (by rw [u]; rfl) m dv a b).2 rows r1 r2⟩⟩⟩⟩
    · have u : up = true := by simpa using u
      exact hyp_iff.2 ⟨⟨n1, n2, hql, hqb⟩, fun nlo os hos => hyp_iff.2 ⟨⟨rfl, hos, n1, n2, hql⟩, hyp_iff.2 ⟨⟨rfl, n1, n2, hp⟩, fun m dv a b => (fin _ _ (by omega) (by omega) (by rw [u]; rfl) m dv a b).1⟩, fun rows r1 r2 => hyp_iff.2 ⟨⟨rfl, n1, n2, hp⟩, fun m dv a b => (fin _ _ (by omega) (by omega) (by rw [u]; rfl) m dv a b).2 rows r1 r2⟩⟩⟩
  · exact hq.elim
theorem okOwn2D : OkS Tryz.prog H0 20 sOwn2D := by
  intro args h Q hq
  unfold sOwn2D at hq
  split at hq
  · rename_i n pi e g fi nl ps slot
    obtain ⟨⟨n1, n2, hs, h0, hl, p0, p1⟩, hq⟩ := hyp_iff.1 hq
    subst hs
    refine in_ok (S := Y1) (U := 6) (k := 6) okY1 (to (nfOwnD ..) ?_)
    have w0 : IntKind.i64.wrap (slot + (ps.length : Int)) = slot + ps.length := wr (by omega) (by omega)
    have w1 : IntKind.i64.wrap (slot - slot) = 0 := by rw [wr (by omega) (by omega)]; omega
    rw [w0, w1]
    have hp : ((ps.getD (Int.toNat 0) []).getD 0 AV.gone).toI = s_pair ps 0 := rfl
    rw [hp, wr (x := s_pair ps 0 + 1) (by omega) (by omega)]
    refine br_intro (fun c => absurd (of_decide_eq_true c) (by omega)) fun _ => br_intro (fun c => absurd (of_decide_eq_true c) (by omega)) fun _ => br_intro (fun c => absurd (of_decide_eq_true c) (by omega)) fun _ => ?_
    rw [chk_iff]
    refine ⟨by omega, br_intro (fun c => absurd (of_decide_eq_true c) (by omega)) fun _ => ?_⟩
    rw [chk_iff, chk_iff, Int.tmod_eq_emod_of_nonneg (by omega)]
    exact ⟨by omega, by omega, hq _ rfl⟩
  · exact hq.elim
theorem okP2 : OkSp Tryz.prog H0 P2 := ⟨⟨okMake9X, okOwn2D, okZ1.fn⟩, trivial⟩
end Go.Proofs.YtiemjcchlfbglaaGreatE
/- Which link it is, on a way. -/
namespace Go.Proofs.YtiemjcchlfbglaaGreatE
open Go
set_option linter.unusedVariables false
set_option linter.unusedSimpArgs false

/- Which link it is. -/
def lk1 (n o dir : Int) (k : Nat) : Int := if dir = 1 then s_node n o dir k else s_node n o dir (k + 1)
def lk2 (n o dir : Int) (k : Nat) : Int := (if dir = 1 then s_node n o dir k else s_node n o dir (k + 2)) + n
theorem lk1_eq {n o dir : Int} (hn : 6 ≤ n) (hd : dir = 1 ∨ dir = -1) (hs : 0 ≤ o ∧ o < n) {k : Nat} (hk : (k : Int) + 1 < n) : s_linkO n (s_node n o dir k) (s_node n o dir (k + 1)) = some (lk1 n o dir k) := by
  unfold lk1
  rcases hd with rfl | rfl
  · rw [if_pos rfl]; exact ndl_up1 hn hs.1 hs.2 hk
  · rw [if_neg (by omega)]; exact ndl_dn1 hn hs.1 hs.2 hk
theorem lk2_eq {n o dir : Int} (hn : 6 ≤ n) (hd : dir = 1 ∨ dir = -1) (hs : 0 ≤ o ∧ o < n) {k : Nat} (hk : (k : Int) + 2 < n) : s_linkO n (s_node n o dir k) (s_node n o dir (k + 2)) = some (lk2 n o dir k) := by
  unfold lk2
  rcases hd with rfl | rfl
  · rw [if_pos rfl]; exact ndl_up2 hn hs.1 hs.2 hk
  · rw [if_neg (by omega)]; exact ndl_dn2 hn hs.1 hs.2 hk
theorem lk1_lt {n o dir : Int} (hn : 0 < n) (k : Nat) : 0 ≤ lk1 n o dir k ∧ lk1 n o dir k < n := by
  unfold lk1
  split
  · exact node_lt hn k
  · exact node_lt hn (k + 1)
theorem lk2_ge {n o dir : Int} (hn : 0 < n) (k : Nat) : n ≤ lk2 n o dir k := by
  unfold lk2
  have h1 := node_lt (n := n) (o := o) (dir := dir) hn k
  have h2 := node_lt (n := n) (o := o) (dir := dir) hn (k + 2)
  split <;> omega
theorem lk1_ne {n o dir : Int} (hd : dir = 1 ∨ dir = -1) (hs : 0 ≤ o ∧ o < n) {j k : Nat} (hj : (j : Int) + 1 < n) (hk : (k : Int) + 1 < n) (h : j ≠ k) : lk1 n o dir j ≠ lk1 n o dir k := by
  unfold lk1
  intro e
  split at e
  · have h1 := far_node hd hs.1 hs.2 (k := j) (by omega)
    have h2 := far_node hd hs.1 hs.2 (k := k) (by omega)
    rw [e, h2] at h1
    omega
  · have h1 := far_node hd hs.1 hs.2 (k := j + 1) (by omega)
    have h2 := far_node hd hs.1 hs.2 (k := k + 1) (by omega)
    rw [e, h2] at h1
    omega
end Go.Proofs.YtiemjcchlfbglaaGreatE
