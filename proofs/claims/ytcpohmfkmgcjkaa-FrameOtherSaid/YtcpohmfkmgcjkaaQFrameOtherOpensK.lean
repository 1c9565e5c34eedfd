/- Arguments as they come in, opened: the structs of this program. Printed by a program of this session. -/
import Derived.Test.YtcpohmfkmgcjkaaQFrameOtherOpens
import Derived.Test.YtcpohmfkmgcjkaaQFrameOtherOks
namespace Go.Proofs.Ytcpohmfkmgcjkaa.P
open Go.RowKit Go.Proofs.YtcpohmfkmgcjkaaW.PrintWords Go.Proofs.YtcpohmfkmgcjkaaW.PrintLast Go.Proofs.YtcpohmfkmgcjkaaW.PrintMore
open Go.ChangeShapes Go.WideShapes Go.Deep
set_option linter.unusedVariables false
set_option linter.unusedSimpArgs false
set_option maxRecDepth 100000 in
theorem opens_k24 (w : World) : Opens Try.prog w 24 k24 ok24 := by
  intro H enc base spare held fuel cs x h
  obtain ⟨xs, n, _, _, hlen, hxl, hg⟩ := DataW.trod_struct Try.underlying24 h
  have hlen2 : cs.length = 6 := hlen.trans (by kernel_rfl)
  obtain ⟨v0, K0, o0⟩ := opens_part (k := 1) (opens_int _ Try.underlying3) (by kernel_rfl) (by rw [List.getElem?_eq_getElem (by rw [hxl]; decide)]; rfl) (hg 0 _ rfl)
  obtain ⟨v1, K1, o1⟩ := opens_part (k := 1) (opens_int _ Try.underlying3) (by kernel_rfl) (by rw [List.getElem?_eq_getElem (by rw [hxl]; decide)]; rfl) (hg 1 _ rfl)
  obtain ⟨v2, K2, o2⟩ := opens_part (k := 1) (opens_int _ Try.underlying3) (by kernel_rfl) (by rw [List.getElem?_eq_getElem (by rw [hxl]; decide)]; rfl) (hg 2 _ rfl)
  obtain ⟨v3, K3, o3⟩ := opens_part (k := 1) (opens_int _ Try.underlying3) (by kernel_rfl) (by rw [List.getElem?_eq_getElem (by rw [hxl]; decide)]; rfl) (hg 3 _ rfl)
  obtain ⟨v4, K4, o4⟩ := opens_part (k := 1) (opens_int _ Try.underlying3) (by kernel_rfl) (by rw [List.getElem?_eq_getElem (by rw [hxl]; decide)]; rfl) (hg 4 _ rfl)
  obtain ⟨v5, K5, o5⟩ := opens_part (k := 1) (opens_slice _ Try.underlying22 (by kernel_rfl) (opens_int _ Try.underlying3)) (by kernel_rfl) (by rw [List.getElem?_eq_getElem (by rw [hxl]; decide)]; rfl) (hg 5 _ rfl)
  obtain ⟨c0, c1, c2, c3, c4, c5, rfl⟩ : ∃ c0 c1 c2 c3 c4 c5, cs = [c0, c1, c2, c3, c4, c5] := by
    match cs, hlen2 with
    | [c0, c1, c2, c3, c4, c5], _ => exact ⟨c0, c1, c2, c3, c4, c5, rfl⟩
  exact ⟨⟨v0, v1, v2, v3, v4, v5⟩, ⟨[c0], [c1, c2, c3, c4, c5], rfl, K0, ⟨[c1], [c2, c3, c4, c5], rfl, K1, ⟨[c2], [c3, c4, c5], rfl, K2, ⟨[c3], [c4, c5], rfl, K3, ⟨[c4], [c5], rfl, K4, K5⟩⟩⟩⟩⟩, o0, o1, o2, o3, o4, o5⟩
set_option maxRecDepth 100000 in
theorem opens_k26 (w : World) : Opens Try.prog w 26 k26 ok26 := by
  intro H enc base spare held fuel cs x h
  obtain ⟨xs, n, _, _, hlen, hxl, hg⟩ := DataW.trod_struct Try.underlying26 h
  have hlen2 : cs.length = 2 := hlen.trans (by kernel_rfl)
  obtain ⟨v0, K0, o0⟩ := opens_part (k := 1) (opens_int _ Try.underlying3) (by kernel_rfl) (by rw [List.getElem?_eq_getElem (by rw [hxl]; decide)]; rfl) (hg 0 _ rfl)
  obtain ⟨v1, K1, o1⟩ := opens_part (k := 1) (opens_int _ Try.underlying3) (by kernel_rfl) (by rw [List.getElem?_eq_getElem (by rw [hxl]; decide)]; rfl) (hg 1 _ rfl)
  obtain ⟨c0, c1, rfl⟩ : ∃ c0 c1, cs = [c0, c1] := by
    match cs, hlen2 with
    | [c0, c1], _ => exact ⟨c0, c1, rfl⟩
  exact ⟨⟨v0, v1⟩, ⟨[c0], [c1], rfl, K0, K1⟩, o0, o1⟩
set_option maxRecDepth 100000 in
theorem opens_k29 (w : World) : Opens Try.prog w 29 k29 ok29 := by
  intro H enc base spare held fuel cs x h
  obtain ⟨xs, n, _, _, hlen, hxl, hg⟩ := DataW.trod_struct Try.underlying29 h
  have hlen2 : cs.length = 6 := hlen.trans (by kernel_rfl)
  obtain ⟨v0, K0, o0⟩ := opens_part (k := 1) (opens_int _ Try.underlying3) (by kernel_rfl) (by rw [List.getElem?_eq_getElem (by rw [hxl]; decide)]; rfl) (hg 0 _ rfl)
  obtain ⟨v1, K1, o1⟩ := opens_part (k := 1) (opens_int _ Try.underlying3) (by kernel_rfl) (by rw [List.getElem?_eq_getElem (by rw [hxl]; decide)]; rfl) (hg 1 _ rfl)
  obtain ⟨v2, K2, o2⟩ := opens_part (k := 1) (opens_int _ Try.underlying3) (by kernel_rfl) (by rw [List.getElem?_eq_getElem (by rw [hxl]; decide)]; rfl) (hg 2 _ rfl)
  obtain ⟨v3, K3, o3⟩ := opens_part (k := 2) (opens_k26 _) (by kernel_rfl) (by rw [List.getElem?_eq_getElem (by rw [hxl]; decide)]; rfl) (hg 3 _ rfl)
  obtain ⟨v4, K4, o4⟩ := opens_part (k := 1) (opens_slice _ Try.underlying27 (by kernel_rfl) (opens_k26 _)) (by kernel_rfl) (by rw [List.getElem?_eq_getElem (by rw [hxl]; decide)]; rfl) (hg 4 _ rfl)
  obtain ⟨c0, c1, c2, c3, c4, c5, rfl⟩ : ∃ c0 c1 c2 c3 c4 c5, cs = [c0, c1, c2, c3, c4, c5] := by
    match cs, hlen2 with
    | [c0, c1, c2, c3, c4, c5], _ => exact ⟨c0, c1, c2, c3, c4, c5, rfl⟩
  exact ⟨⟨v0, v1, v2, v3, v4⟩, ⟨[c0], [c1, c2, c3, c4, c5], rfl, K0, ⟨[c1], [c2, c3, c4, c5], rfl, K1, ⟨[c2], [c3, c4, c5], rfl, K2, ⟨[c3, c4], [c5], rfl, K3, K4⟩⟩⟩⟩, o0, o1, o2, o3, o4⟩
end Go.Proofs.Ytcpohmfkmgcjkaa.P
