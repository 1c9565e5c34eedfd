/- Proves ConfMost: of every raw configuration, made one that may be, Most is more than half of all nodes and with one less it is not, and Limit and Window are what they must be (no condition on the input). -/
import Derived.Test.YtdkbalaphblobaaConf
import Derived.Test.YtdkbalaphblobaaPx14
namespace Go.Proofs.Ytdkbalaphblobaa.Pure
open Go.RowKit Go.Proofs.Ytdkbalaphblobaa.P Go.Proofs.YtdkbalaphblobaaW.PrintWords Go.Proofs.YtdkbalaphblobaaW.PrintLast
theorem ConfMost : plaitinglaw3_ConfMost.Pure := by
  intro N Pi E G F l _ _ _ _ _ hl
  refine ⟨6, ?_⟩
  obtain ⟨n, pi, e, g, f, ps, hm, hk, _⟩ := make_eq 0 N Pi E G F l hl.1
  obtain ⟨n1, n2, e1, e2, g1, g2, p1, p2, f1, f2, l1, l2⟩ := hm
  unfold plaitinglaw3_ConfMost.f plaitinglaw3_known.f
  simp only [Option.bind_some, if_true]
  rw [hk 0]
  simp only [Option.bind_some]
  rw [conf_Most_eq n pi e g f ps (by omega) (by omega)]
  simp only [Option.bind_some, conf_Limit.f, conf_Window.f]
  rw [w64 (x := 2 * (n / 2 + 1)) (by omega) (by omega), w64 (x := n / 2 + 1 - 1) (by omega) (by omega), w64 (x := 2 * (n / 2 + 1 - 1)) (by omega) (by omega), w64 (x := e + g) (by omega) (by omega), w64 (x := e + g + 1) (by omega) (by omega), w64 (x := 8 * (e + g + 1)) (by omega) (by omega), w64 (x := 2 * pi) (by omega) (by omega)]
  rw [if_pos (by omega), if_pos (by omega), if_pos (by omega), if_pos trivial]
  simp only [Option.some.injEq, decide_eq_true_eq]
  omega

end Go.Proofs.Ytdkbalaphblobaa.Pure
