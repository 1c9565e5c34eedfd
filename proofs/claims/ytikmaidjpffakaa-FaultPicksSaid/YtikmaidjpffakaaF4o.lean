/- The structs of this program, opened. -/
import Derived.Test.YtikmaidjpffakaaF0
namespace Go.Proofs.YtikmaidjpffakaaE
open Go
set_option linter.unusedVariables false
set_option maxRecDepth 100000

theorem op_ints (w : World) : Op Try.prog w 22 (ARow [.int .i64] (AInt .i64)) := op_slice Try.underlying22 (by kernel_rfl) (by decide) (op_int Try.underlying3) fun _ => int_pure
abbrev AConf : List AV → Prop := Parts [AInt .i64, AInt .i64, AInt .i64, AInt .i64, AInt .i64, ARow [.int .i64] (AInt .i64)]
theorem op_conf (w : World) : Op Try.prog w 24 AConf :=
  op_struct Try.underlying24 (by kernel_rfl) ⟨op_int Try.underlying3, op_int Try.underlying3, op_int Try.underlying3, op_int Try.underlying3, op_int Try.underlying3, op_ints w, trivial⟩
abbrev AAct : List AV → Prop := Parts [AInt .i64, AInt .i64, AStr]
theorem op_act (w : World) : Op Try.prog w 37 AAct := op_struct Try.underlying37 (by kernel_rfl) ⟨op_int Try.underlying3, op_int Try.underlying3, op_str Try.underlying9, trivial⟩
theorem act_form {r : List AV} (h : AAct r) : ∃ (a b : Int) (s : ByteArray), r = [.int .i64 a, .int .i64 b, .str s] ∧ (s.size : Int) ≤ maxLen := by
  obtain ⟨_, _, rfl, ⟨a, rfl, _⟩, _, _, rfl, ⟨b, rfl, _⟩, _, _, rfl, ⟨s, rfl, h⟩, rfl⟩ := h
  exact ⟨a, b, s, rfl, by omega⟩
theorem act_pure {r : List AV} (h : AAct r) : rowOk [.int .i64, .int .i64, .str] r ∧ pureR [.int .i64, .int .i64, .str] r = true := by
  obtain ⟨a, b, s, rfl, _⟩ := act_form h
  exact ⟨⟨rfl, rfl⟩, rfl⟩
theorem op_acts (w : World) : Op Try.prog w 25 (ARow [.int .i64, .int .i64, .str] AAct) := op_slice Try.underlying25 (by kernel_rfl) (by decide) (op_act w) fun _ => act_pure
abbrev AFault : List AV → Prop := Parts [AInt .i64, AInt .i64, AInt .i64, AInt .i64, ARow [.int .i64, .int .i64, .str] AAct, ARow [.int .i64] (AInt .i64)]
theorem op_fault (w : World) : Op Try.prog w 27 AFault :=
  op_struct Try.underlying27 (by kernel_rfl) ⟨op_int Try.underlying3, op_int Try.underlying3, op_int Try.underlying3, op_int Try.underlying3, op_acts w, op_ints w, trivial⟩
abbrev AItem : List AV → Prop := Parts [AInt .i64, AInt .i64]
theorem op_item (w : World) : Op Try.prog w 41 AItem := op_struct Try.underlying41 (by kernel_rfl) ⟨op_int Try.underlying3, op_int Try.underlying3, trivial⟩
theorem item_form {r : List AV} (h : AItem r) : ∃ (a b : Int), r = [.int .i64 a, .int .i64 b] := by
  obtain ⟨_, _, rfl, ⟨a, rfl, _⟩, _, _, rfl, ⟨b, rfl, _⟩, rfl⟩ := h
  exact ⟨a, b, rfl⟩
theorem item_pure {r : List AV} (h : AItem r) : rowOk [.int .i64, .int .i64] r ∧ pureR [.int .i64, .int .i64] r = true := by
  obtain ⟨a, b, rfl⟩ := item_form h
  exact ⟨⟨rfl, rfl⟩, rfl⟩
theorem op_items (w : World) : Op Try.prog w 42 (ARow [.int .i64, .int .i64] AItem) := op_slice Try.underlying42 (by kernel_rfl) (by decide) (op_item w) fun _ => item_pure
abbrev AFrame : List AV → Prop := Parts [AInt .i64, AInt .i64, AInt .i64, AItem, ARow [.int .i64, .int .i64] AItem]
theorem op_frame (w : World) : Op Try.prog w 44 AFrame :=
  op_struct Try.underlying44 (by kernel_rfl) ⟨op_int Try.underlying3, op_int Try.underlying3, op_int Try.underlying3, op_item w, op_items w, trivial⟩
theorem conf_form {cs : List AV} (h : AConf cs) : ∃ (n pi e g fi : Int) (nl : Bool) (rs : List (List AV)), cs = [.int .i64 n, .int .i64 pi, .int .i64 e, .int .i64 g, .int .i64 fi, .row nl [.int .i64] rs] := by
  obtain ⟨_, _, rfl, ⟨a, rfl, _⟩, _, _, rfl, ⟨b, rfl, _⟩, _, _, rfl, ⟨c, rfl, _⟩, _, _, rfl, ⟨d, rfl, _⟩, _, _, rfl, ⟨e, rfl, _⟩, _, _, rfl, ⟨nl, rs, rfl, _⟩, rfl⟩ := h
  exact ⟨a, b, c, d, e, nl, rs, rfl⟩
theorem fault_form {cs : List AV} (h : AFault cs) : ∃ (k a f t : Int) (nl nl2 : Bool) (rs ds : List (List AV)), cs = [.int .i64 k, .int .i64 a, .int .i64 f, .int .i64 t, .row nl [.int .i64, .int .i64, .str] rs, .row nl2 [.int .i64] ds] ∧
    (∀ r ∈ rs, ∃ (a b : Int) (s : ByteArray), r = [.int .i64 a, .int .i64 b, .str s] ∧ (s.size : Int) ≤ maxLen) ∧ rs.length ≤ maxLen ∧ ds.length ≤ maxLen ∧ (∀ r ∈ ds, AInt .i64 r) := by
  obtain ⟨_, _, rfl, ⟨a, rfl, _⟩, _, _, rfl, ⟨b, rfl, _⟩, _, _, rfl, ⟨c, rfl, _⟩, _, _, rfl, ⟨d, rfl, _⟩, _, _, rfl, ⟨nl, rs, rfl, hl, hr⟩, _, _, rfl, ⟨nl2, ds, rfl, hl2, hd⟩, rfl⟩ := h
  exact ⟨a, b, c, d, nl, nl2, rs, ds, rfl, fun r hm => act_form (hr r hm), hl, hl2, hd⟩
theorem frame_form {cs : List AV} (h : AFrame cs) : ∃ (k r s p q : Int) (nl : Bool) (rs : List (List AV)), cs = [.int .i64 k, .int .i64 r, .int .i64 s, .int .i64 p, .int .i64 q, .row nl [.int .i64, .int .i64] rs] ∧
    (∀ r ∈ rs, ∃ (a b : Int), r = [.int .i64 a, .int .i64 b]) ∧ rs.length ≤ maxLen := by
  obtain ⟨_, _, rfl, ⟨a, rfl, _⟩, _, _, rfl, ⟨b, rfl, _⟩, _, _, rfl, ⟨c, rfl, _⟩, _, _, rfl, hi, _, _, rfl, ⟨nl, rs, rfl, hl, hr⟩, rfl⟩ := h
  obtain ⟨p, q, rfl⟩ := item_form hi
  exact ⟨a, b, c, p, q, nl, rs, rfl, fun r hm => item_form (hr r hm), hl⟩
end Go.Proofs.YtikmaidjpffakaaE
