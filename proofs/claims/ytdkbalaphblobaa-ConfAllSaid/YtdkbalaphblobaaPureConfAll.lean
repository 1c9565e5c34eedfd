/- Proves ConfAll: of every raw configuration, made one that may be, every slot and every round, all that is derived of it is the reference's (no condition on the inputs). -/
import Derived.Test.YtdkbalaphblobaaConf
import Derived.Test.YtdkbalaphblobaaPx30
namespace Go.Proofs.Ytdkbalaphblobaa.Pure
open Go.RowKit Go.Proofs.Ytdkbalaphblobaa.P Go.Proofs.YtdkbalaphblobaaW.PrintWords Go.Proofs.YtdkbalaphblobaaW.PrintLast
theorem ConfAll : plaitinglaw3_ConfAll.Pure := by
  intro N Pi E G F l s r _ _ _ _ _ hl hs _
  obtain ⟨n, pi, e, g, f, ps, hm, hk, _⟩ := make_eq 0 N Pi E G F l hl.1
  obtain ⟨n1, n2, e1, e2, g1, g2, p1, p2, f1, f2, l1, l2⟩ := hm
  have hb := mod_bounds r 1073741824 (by decide)
  refine ⟨40, ?_⟩
  unfold plaitinglaw3_ConfAll.f plaitinglaw3_known.f
  simp only [Option.bind_some, if_true]
  rw [hk 34]
  simp only [Option.bind_some]
  rw [c3_within r 1073741824 (by decide) (by decide), conf_Slots_eq n pi e g f ps (by omega) (by omega) (by omega)]
  simp only [Option.bind_some]
  rw [w64 (x := n + ps.length + 3) (by omega) (by omega), c3_within s _ (by omega) (by omega)]
  simp only [Option.bind_some]
  have hc := mod_bounds s (n + ps.length + 3) (by omega)
  rw [w64 (x := s % (n + ps.length + 3) - 1) (by omega) (by omega)]
  have hs2 : s % (n + ps.length + 3) - 1 ≤ 100 := by omega
  generalize s % (n + ps.length + 3) - 1 = s2 at *
  generalize r % 1073741824 = x at *
  have hs1 : s ≤ 9223372036854775807 := by
    simp [Lit.wf] at hs
    omega
  have round : ∀ (k : Nat) (i : Int) (t : Int), rd [s, s2] i = t → t ≤ 9223372036854775807 → 0 ≤ i → i < 2 →
      plaitinglaw3_ConfAll.l0 (k + 21) x [s, s2] i n pi e g f ps = plaitinglaw3_ConfAll.l0 (k + 20) x [s, s2] (wrap64 (i + 1)) n pi e g f ps := by
    intro k i t ht hle h0 h1
    conv => lhs; rw [plaitinglaw3_ConfAll.l0]
    have hO := ownersOf_length n ps t
    have hV := votersFrom_length n.toNat (ownersOf n ps t)
    rw [if_pos h1, if_pos h0, if_pos (by simpa using h1), ht, conf_Owners_eq (k + 19) n pi e g f ps t n1 n2 l1 l2 hle, Option.bind_some, r3_Owners_eq (k + 19) n pi e g f ps t n1 n2 l1 l2 hle, Option.bind_some, r3_Same_eq _ _ _ (by omega) (by omega), Option.bind_some, if_pos (by simp),
      conf_Voters_eq (k + 2) n pi e g f ps t n1 n2 l1 l2 hle, Option.bind_some, r3_Voters_eq (k + 2) n pi e g f ps t n1 n2 l1 l2 hle, Option.bind_some, r3_Same_eq _ _ _ (by omega) (by omega), Option.bind_some, if_pos (by simp)]
  have h1 := round 19 0 s rfl hs1 (by omega) (by omega)
  have h2 := round 18 1 s2 rfl (by omega) (by omega) (by omega)
  have q1 : wrap64 (0 + 1) = 1 := by decide +kernel
  have q2 : wrap64 (1 + 1) = 2 := by decide +kernel
  rw [q1] at h1
  rw [q2] at h2
  rw [h1, h2, plaitinglaw3_ConfAll.l0, if_neg (by omega), conf_Slots_eq n pi e g f ps (by omega) (by omega) (by omega)]
  simp only [Option.bind_some]
  rw [plaitingref3_Slots.f, w64 (by omega) (by omega)]
  simp only [Option.bind_some, if_true]
  rw [conf_Most_eq n pi e g f ps (by omega) (by omega)]
  simp only [Option.bind_some, plaitingref3_Most.f]
  rw [Int.tdiv_eq_ediv_of_nonneg (by omega), w64 (x := n / 2) (by omega) (by omega), w64 (x := n / 2 + 1) (by omega) (by omega)]
  simp only [if_true, conf_Window.f, plaitingref3_Window.f, conf_Limit.f, plaitingref3_Limit.f, Option.bind_some]
  rw [conf_Wire_eq n pi e g f ps x f1 f2 (by omega) (by omega)]
  simp only [Option.bind_some, plaitingref3_Wire.f]
  rw [w64 (x := f + x) (by omega) (by omega), Int.tmod_eq_emod_of_nonneg (by omega)]
  simp

end Go.Proofs.Ytdkbalaphblobaa.Pure
