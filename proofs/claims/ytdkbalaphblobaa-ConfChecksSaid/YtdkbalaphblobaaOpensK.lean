/- Arguments as they come in, opened: the structs of this program. Printed by a program of this session. -/
import Derived.Test.YtdkbalaphblobaaOpens
namespace Go.Proofs.Ytdkbalaphblobaa.P
open Go.RowKit Go.Proofs.YtdkbalaphblobaaW.PrintWords Go.Proofs.YtdkbalaphblobaaW.PrintLast Go.Proofs.YtdkbalaphblobaaW.PrintMore
open Go.ChangeShapes Go.WideShapes Go.Deep
set_option linter.unusedVariables false
set_option linter.unusedSimpArgs false
def ok35 (x : S35) : Prop := ((Lit.int .i64 x.f0).wf = true) ∧ ((Lit.int .i64 x.f1).wf = true) ∧ ((Lit.int .i64 x.f2).wf = true) ∧ ((Lit.int .i64 x.f3).wf = true) ∧ ((Lit.int .i64 x.f4).wf = true) ∧ (x.f5.length ≤ maxLen ∧ ∀ y_ ∈ x.f5, (Lit.int .i64 y_).wf = true)
theorem opens_k35 (w : World) : Opens Try.prog w 35 k35 ok35 := by
  intro H enc base spare held fuel cs x h
  obtain ⟨xs, n, _, _, hlen, hxl, hg⟩ := DataW.trod_struct Try.underlying35 h
  have hlen2 : cs.length = 6 := hlen.trans (by kernel_rfl)
  obtain ⟨v0, K0, o0⟩ := opens_part (k := 1) (opens_int _ Try.underlying3) (by kernel_rfl) (by rw [List.getElem?_eq_getElem (by rw [hxl]; decide)]; rfl) (hg 0 _ rfl)
  obtain ⟨v1, K1, o1⟩ := opens_part (k := 1) (opens_int _ Try.underlying3) (by kernel_rfl) (by rw [List.getElem?_eq_getElem (by rw [hxl]; decide)]; rfl) (hg 1 _ rfl)
  obtain ⟨v2, K2, o2⟩ := opens_part (k := 1) (opens_int _ Try.underlying3) (by kernel_rfl) (by rw [List.getElem?_eq_getElem (by rw [hxl]; decide)]; rfl) (hg 2 _ rfl)
  obtain ⟨v3, K3, o3⟩ := opens_part (k := 1) (opens_int _ Try.underlying3) (by kernel_rfl) (by rw [List.getElem?_eq_getElem (by rw [hxl]; decide)]; rfl) (hg 3 _ rfl)
  obtain ⟨v4, K4, o4⟩ := opens_part (k := 1) (opens_int _ Try.underlying3) (by kernel_rfl) (by rw [List.getElem?_eq_getElem (by rw [hxl]; decide)]; rfl) (hg 4 _ rfl)
  obtain ⟨v5, K5, o5⟩ := opens_part (k := 1) (opens_slice _ Try.underlying33 (by kernel_rfl) (opens_int _ Try.underlying3)) (by kernel_rfl) (by rw [List.getElem?_eq_getElem (by rw [hxl]; decide)]; rfl) (hg 5 _ rfl)
  obtain ⟨c0, c1, c2, c3, c4, c5, rfl⟩ : ∃ c0 c1 c2 c3 c4 c5, cs = [c0, c1, c2, c3, c4, c5] := by
    match cs, hlen2 with
    | [c0, c1, c2, c3, c4, c5], _ => exact ⟨c0, c1, c2, c3, c4, c5, rfl⟩
  exact ⟨⟨v0, v1, v2, v3, v4, v5⟩, ⟨[c0], [c1, c2, c3, c4, c5], rfl, K0, ⟨[c1], [c2, c3, c4, c5], rfl, K1, ⟨[c2], [c3, c4, c5], rfl, K2, ⟨[c3], [c4, c5], rfl, K3, ⟨[c4], [c5], rfl, K4, K5⟩⟩⟩⟩⟩, o0, o1, o2, o3, o4, o5⟩
end Go.Proofs.Ytdkbalaphblobaa.P
