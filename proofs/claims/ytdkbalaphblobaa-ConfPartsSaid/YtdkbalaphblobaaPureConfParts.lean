/- Proves ConfParts: of every raw configuration, made one that may be, and every slot, Owners and Voters are all nodes, each once; a node's own slot has it alone, a pair's slot its two nodes or nobody (no condition on the inputs). -/
import Derived.Test.YtdkbalaphblobaaConf
import Derived.Test.YtdkbalaphblobaaPx29
namespace Go.Proofs.Ytdkbalaphblobaa.Pure
open Go.RowKit Go.Proofs.Ytdkbalaphblobaa.P Go.Proofs.YtdkbalaphblobaaW.PrintWords Go.Proofs.YtdkbalaphblobaaW.PrintLast
def partsOk (n : Nat) (o : List Int) : Bool :=
  let v := votersFrom n o 0
  decide (o.length + v.length = n) && (List.range n).all (fun i => o.any (· == (i : Int)) != v.any (· == (i : Int))) && (List.range (v.length - 1)).all (fun i => decide (v.getD i 0 < v.getD (i + 1) 0))
theorem parts_none : ∀ n : Fin 7, partsOk (6 + n.val) [] = true := by decide +kernel
theorem parts_one : ∀ n : Fin 7, ∀ a : Fin 12, a.val < 6 + n.val → partsOk (6 + n.val) [(a.val : Int)] = true := by decide +kernel
theorem parts_two : ∀ n : Fin 7, ∀ a : Fin 12, a.val < 6 + n.val → partsOk (6 + n.val) [(a.val : Int), ((a.val : Int) + 1) % ((6 + n.val : Nat) : Int)] = true := by decide +kernel
theorem parts_ok (n : Nat) (ps : List Int) (s : Int) (n1 : 6 ≤ n) (n2 : n ≤ 12) (l2 : ∀ x ∈ ps, -1 ≤ x ∧ x ≤ (n : Int) - 1) : partsOk n (ownersOf (n : Int) ps s) = true := by
  obtain ⟨m, rfl⟩ : ∃ m, n = 6 + m := ⟨n - 6, by omega⟩
  have hN := parts_none ⟨m, by omega⟩
  have h1 := fun a : Nat => fun h : a < 12 => parts_one ⟨m, by omega⟩ ⟨a, h⟩
  have h2 := fun a : Nat => fun h : a < 12 => parts_two ⟨m, by omega⟩ ⟨a, h⟩
  unfold ownersOf
  by_cases c0 : s < 0
  · rw [if_pos c0]; exact hN
  · rw [if_neg c0]
    by_cases c1 : s < ((6 + m : Nat) : Int)
    · rw [if_pos c1]
      obtain ⟨a, rfl⟩ := Int.eq_ofNat_of_zero_le (show 0 ≤ s by omega)
      exact h1 a (by omega) (by show a < 6 + m; omega)
    · rw [if_neg c1]
      by_cases c2 : s - ((6 + m : Nat) : Int) < (ps.length : Int)
      · have hr := rd_range l2 (s - ((6 + m : Nat) : Int)) (by omega) c2
        rw [if_pos c2]
        by_cases c3 : rd ps (s - ((6 + m : Nat) : Int)) < 0
        · rw [if_pos c3]; exact hN
        · rw [if_neg c3]
          obtain ⟨a, ha⟩ := Int.eq_ofNat_of_zero_le (show 0 ≤ rd ps (s - ((6 + m : Nat) : Int)) by omega)
          rw [ha] at hr ⊢
          exact h2 a (by omega) (by show a < 6 + m; omega)
      · rw [if_neg c2]; exact hN
theorem parts_l1 (n pi e g f : Int) (ps o v : List Int) (s : Int) (hv : v.length ≤ 12) (hs : (List.range (v.length - 1)).all (fun i => decide (v.getD i 0 < v.getD (i + 1) 0)) = true) :
    ∀ d (k i : Nat), v.length - i = d → 1 ≤ i → plaitinglaw3_ConfParts.l1 (k + d + 1) s o v (i : Int) n pi e g f ps = plaitinglaw3_ConfParts.l1 (k + 1) s o v (v.length + 20 : Nat) n pi e g f ps := by
  intro d
  induction d with
  | zero =>
    intro k i h1 h2
    conv => lhs; rw [plaitinglaw3_ConfParts.l1]
    conv => rhs; rw [plaitinglaw3_ConfParts.l1]
    rw [if_neg (by omega)]
    conv => rhs; rw [if_neg (by omega)]
  | succ d ih =>
    intro k i h1 h2
    have hi : i < v.length := by omega
    conv => lhs; rw [show k + (d + 1) + 1 = (k + d + 1) + 1 from by omega, plaitinglaw3_ConfParts.l1]
    have hlt := List.all_eq_true.1 hs (i - 1) (List.mem_range.2 (by omega))
    rw [decide_eq_true_eq, show i - 1 + 1 = i from by omega] at hlt
    have e1 : rd v ((i : Int) - 1) = v.getD (i - 1) 0 := by
      unfold rd
      rw [show ((i : Int) - 1).toNat = i - 1 from by omega]
    have e2 : rd v (i : Int) = v.getD i 0 := by
      unfold rd
      rw [Int.toNat_natCast]
    rw [if_pos (by omega), w64 (x := (i : Int) - 1) (by omega) (by omega), if_pos (by omega), if_pos (by omega), if_pos (by omega), e1, e2, if_neg (by omega), w64 (by omega) (by omega), show (i : Int) + 1 = ((i + 1 : Nat) : Int) from by omega]
    exact ih k (i + 1) (by omega) (by omega)
theorem parts_l0 (n : Nat) (pi e g f : Int) (ps o v : List Int) (s : Int) (hn : n ≤ 12) (hv : v.length ≤ 12) (ho : o.length ≤ 3) (hs : (List.range n).all (fun i => o.any (· == (i : Int)) != v.any (· == (i : Int))) = true) :
    ∀ d (k i : Nat), n - i = d → i ≤ n → plaitinglaw3_ConfParts.l0 (k + 15 + d) s o v (i : Int) (n : Int) pi e g f ps = plaitinglaw3_ConfParts.l1 (k + 14) s o v 1 (n : Int) pi e g f ps := by
  intro d
  induction d with
  | zero =>
    intro k i h1 h2
    conv => lhs; rw [show k + 15 + 0 = (k + 14) + 1 from by omega, plaitinglaw3_ConfParts.l0]
    rw [if_neg (by omega)]
  | succ d ih =>
    intro k i h1 h2
    conv => lhs; rw [show k + 15 + (d + 1) = (k + 15 + d) + 1 from by omega, plaitinglaw3_ConfParts.l0]
    have hne := List.all_eq_true.1 hs i (List.mem_range.2 (by omega))
    rw [bne_iff_ne] at hne
    rw [if_pos (by omega), r3_In_eq _ o _ (by omega) (by omega), Option.bind_some, r3_In_eq _ v _ (by omega) (by omega), Option.bind_some, if_neg (by rw [beq_iff_eq]; exact hne), w64 (by omega) (by omega), show (i : Int) + 1 = ((i + 1 : Nat) : Int) from by omega]
    exact ih k (i + 1) (by omega) (by omega)
theorem ConfParts : plaitinglaw3_ConfParts.Pure := by
  intro N Pi E G F l s _ _ _ _ _ hl hs
  obtain ⟨n, pi, e, g, f, ps, hm, hk, _⟩ := make_eq 0 N Pi E G F l hl.1
  obtain ⟨n1, n2, e1, e2, g1, g2, p1, p2, f1, f2, l1, l2⟩ := hm
  refine ⟨40, ?_⟩
  unfold plaitinglaw3_ConfParts.f plaitinglaw3_known.f
  simp only [Option.bind_some, if_true]
  rw [hk 34]
  simp only [Option.bind_some]
  rw [plaitingref3_Slots.f, w64 (by omega) (by omega), Option.bind_some, c3_within s _ (by omega) (by omega), Option.bind_some]
  have hc := mod_bounds s (n + ps.length) (by omega)
  generalize s % (n + ps.length) = t at *
  rw [conf_Owners_eq 39 n pi e g f ps t n1 n2 l1 l2 (by omega), Option.bind_some, conf_Voters_eq 22 n pi e g f ps t n1 n2 l1 l2 (by omega), Option.bind_some]
  obtain ⟨m, rfl⟩ := Int.eq_ofNat_of_zero_le (show 0 ≤ n by omega)
  rw [Int.toNat_natCast]
  have hp := parts_ok m ps t (by omega) (by omega) l2
  unfold partsOk at hp
  simp only [Bool.and_eq_true, decide_eq_true_eq] at hp
  obtain ⟨⟨hp1, hp2⟩, hp3⟩ := hp
  have hO := ownersOf_length (m : Int) ps t
  have hV := votersFrom_length m (ownersOf (m : Int) ps t)
  rw [w64 (by omega) (by omega), if_pos (by omega)]
  have h0 := parts_l0 m pi e g f ps (ownersOf (m : Int) ps t) (votersFrom m (ownersOf (m : Int) ps t) 0) t (by omega) (by omega) hO hp2 m (25 - m) 0 (by omega) (by omega)
  rw [show 25 - m + 15 + m = 40 from by omega] at h0
  have h0' : plaitinglaw3_ConfParts.l0 40 t (ownersOf (m : Int) ps t) (votersFrom m (ownersOf (m : Int) ps t) 0) 0 (m : Int) pi e g f ps = _ := h0
  rw [h0']
  have hv1 := parts_l1 (m : Int) pi e g f ps (ownersOf (m : Int) ps t) (votersFrom m (ownersOf (m : Int) ps t) 0) t (by omega) hp3 ((votersFrom m (ownersOf (m : Int) ps t) 0).length - 1) (25 - m + 13 - ((votersFrom m (ownersOf (m : Int) ps t) 0).length - 1)) 1 rfl (Nat.le_refl _)
  rw [show 25 - m + 13 - ((votersFrom m (ownersOf (m : Int) ps t) 0).length - 1) + ((votersFrom m (ownersOf (m : Int) ps t) 0).length - 1) + 1 = 25 - m + 14 from by omega] at hv1
  have hv1' : plaitinglaw3_ConfParts.l1 (25 - m + 14) t (ownersOf (m : Int) ps t) (votersFrom m (ownersOf (m : Int) ps t) 0) 1 (m : Int) pi e g f ps = _ := hv1
  rw [hv1', plaitinglaw3_ConfParts.l1, if_neg (by omega)]
  clear hp1 hp2 hp3 hO hV h0 h0' hv1 hv1'
  unfold ownersOf
  rw [if_neg (show ¬ t < 0 by omega)]
  by_cases c1 : t < (m : Int)
  · simp only [if_pos c1]
    simp [rd]
  · simp only [if_neg c1]
    have c2 : t - (m : Int) < (ps.length : Int) := by omega
    have hr := rd_range l2 (t - (m : Int)) (by omega) c2
    simp only [if_pos c2, w64 (x := t - (m : Int)) (by omega) (by omega)]
    by_cases c3 : rd ps (t - (m : Int)) < 0
    · simp only [if_pos c3]
      rw [if_pos (by simp), if_pos (by omega), if_pos (by omega)]
    · simp only [if_neg c3]
      rw [if_neg (by simp), if_pos (by simp), if_pos (by simp), if_pos (by omega)]
      have q0 : rd [rd ps (t - (m : Int)), (rd ps (t - (m : Int)) + 1) % (m : Int)] 0 = rd ps (t - (m : Int)) := rfl
      have q1 : rd [rd ps (t - (m : Int)), (rd ps (t - (m : Int)) + 1) % (m : Int)] 1 = (rd ps (t - (m : Int)) + 1) % (m : Int) := rfl
      rw [q0, q1, if_pos rfl, if_neg (by omega), if_pos (by simp), w64 (by omega) (by omega), Int.tmod_eq_emod_of_nonneg (by omega)]
      simp

end Go.Proofs.Ytdkbalaphblobaa.Pure
