/- The structs of this program, opened. -/
import Derived.Test.YthihinlamlamhaaG2d
namespace Go.Proofs.YthihinlamlamhaaE
open Go
set_option linter.unusedVariables false
set_option maxRecDepth 100000

theorem op_ints (w : World) : Op Try.prog w 22 (ARow [.int .i64] (AInt .i64)) := op_slice Try.underlying22 (by kernel_rfl) (by decide) (op_int Try.underlying3) fun _ => int_pure
theorem op_bytes (w : World) : Op Try.prog w 25 (ARow [.int .u8] (AInt .u8)) := op_slice Try.underlying25 (by kernel_rfl) (by decide) (op_int Try.underlying5) fun _ => int_pure
abbrev AConf : List AV → Prop := Parts [AInt .i64, AInt .i64, AInt .i64, AInt .i64, AInt .i64, ARow [.int .i64] (AInt .i64)]
theorem op_conf (w : World) : Op Try.prog w 24 AConf :=
  op_struct Try.underlying24 (by kernel_rfl) ⟨op_int Try.underlying3, op_int Try.underlying3, op_int Try.underlying3, op_int Try.underlying3, op_int Try.underlying3, op_ints w, trivial⟩
theorem conf_form {cs : List AV} (h : AConf cs) : ∃ (n pi e g fi : Int) (nl : Bool) (rs : List (List AV)), cs = [.int .i64 n, .int .i64 pi, .int .i64 e, .int .i64 g, .int .i64 fi, .row nl [.int .i64] rs] := by
  obtain ⟨_, _, rfl, ⟨a, rfl, _⟩, _, _, rfl, ⟨b, rfl, _⟩, _, _, rfl, ⟨c, rfl, _⟩, _, _, rfl, ⟨d, rfl, _⟩, _, _, rfl, ⟨e, rfl, _⟩, _, _, rfl, ⟨nl, rs, rfl, _⟩, rfl⟩ := h
  exact ⟨a, b, c, d, e, nl, rs, rfl⟩
theorem vr_nil {E : En} {nl : Bool} {sh : List K} {rs : List (List AV)} {v : Value} (h : VR E (.row nl sh rs) v) : nl = true → rs = [] := fun hn => by
  simp only [VR] at h
  obtain ⟨a, cap, _, h1, _, h2, _⟩ := h
  exact List.eq_nil_of_length_eq_zero (by have := (h2 hn).2; omega)
theorem bytes_of {rs : List (List AV)} (h : ∀ r ∈ rs, AInt .u8 r) : s_bytes rs := fun r hr => by
  obtain ⟨n, rfl, hw⟩ := h r hr
  simp only [Lit.wf, Bool.and_eq_true, decide_eq_true_eq] at hw
  have e1 : IntKind.u8.min = 0 := by decide
  have e2 : IntKind.u8.max = 255 := by decide
  show 0 ≤ n ∧ n ≤ 255
  omega
end Go.Proofs.YthihinlamlamhaaE
