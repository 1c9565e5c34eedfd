/- Proves ConfRounds: of every raw configuration, made one that may be, and every round, the wire's rounds come one behind the other and begin anew behind 65535 (no condition on the inputs). -/
import Derived.Test.YtdkbalaphblobaaConf
import Derived.Test.YtdkbalaphblobaaPx13
namespace Go.Proofs.Ytdkbalaphblobaa.Pure
open Go.RowKit Go.Proofs.Ytdkbalaphblobaa.P Go.Proofs.YtdkbalaphblobaaW.PrintWords Go.Proofs.YtdkbalaphblobaaW.PrintLast
theorem ConfRounds : plaitinglaw3_ConfRounds.Pure := by
  intro N Pi E G F l r _ _ _ _ _ hl _
  obtain ⟨n, pi, e, g, f, ps, hm, hk, _⟩ := make_eq 0 N Pi E G F l hl.1
  obtain ⟨n1, n2, e1, e2, g1, g2, p1, p2, f1, f2, l1, l2⟩ := hm
  have hb := mod_bounds r 200000 (by decide)
  have hw : ∀ x : Int, 0 ≤ x → x ≤ 1000000 → conf_Wire.f n pi e g f ps x = some ((f + x) % 65536) := by
    intro x h0 h1
    exact conf_Wire_eq n pi e g f ps x f1 f2 h0 (by omega)
  refine ⟨6, ?_⟩
  unfold plaitinglaw3_ConfRounds.f plaitinglaw3_known.f
  simp only [Option.bind_some, if_true]
  rw [hk 0]
  simp only [Option.bind_some]
  rw [c3_within r 200000 (by decide) (by decide)]
  simp only [Option.bind_some]
  generalize r % 200000 = x at *
  rw [w64 (x := x + 1) (by omega) (by omega), w64 (x := x + 65536) (by omega) (by omega), hw x (by omega) (by omega), hw (x + 1) (by omega) (by omega), hw (x + 65536) (by omega) (by omega), hw 0 (by omega) (by omega)]
  simp only [Option.bind_some]
  rw [if_pos (by omega), if_pos (by omega), w64 (by omega) (by omega)]
  have e1 : (f + (x + 65536)) % 65536 = (f + x) % 65536 := by omega
  have e2 : (f + 0) % 65536 = f := by omega
  rw [e1, e2]
  by_cases h : (f + (x + 1)) % 65536 = (f + x) % 65536 + 1
  · rw [if_pos h, if_pos rfl]
    simp
  · rw [if_neg h, if_pos (by omega), if_pos (by omega), if_pos rfl]
    simp

end Go.Proofs.Ytdkbalaphblobaa.Pure
