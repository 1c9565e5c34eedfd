/- Proves FrameOther: a frame that says again what was taken is none of a network with other slots (no condition on the inputs). -/
import Derived.Test.YtcpohmfkmgcjkaaRows
import Derived.Test.YtcpohmfkmgcjkaaQFrameOtherPureFrameOther
import Derived.Test.YtcpohmfkmgcjkaaQFrameOtherOpensK
import Derived.OpenShut
import Derived.ShutString
import Derived.ChangeOld
import Derived.Test.YtcpohmfkmgcjkaaQFrameOtherWSized
namespace Go.Proofs.Ytcpohmfkmgcjkaa.frameOther
open Go.ChangeShapes Go.WideShapes Go.ChangeAt Go.RowKit Go.Proofs.Ytcpohmfkmgcjkaa.P
open Go.ChangeMaps (open_string shut_string)
set_option linter.unusedVariables false
theorem own : ownKnob Try.prog.godebug = none := by kernel_rfl
theorem laidOut : laidOutB Try.prog = true := by kernel_rfl
set_option maxRecDepth 100000 in
theorem lifted (os : Os) (started : os.Started) (H : Type) (enc : TypeId × Value → H) :
  ReturnsInHanded {} Try.checked os 9 .any (Rows.frameOtherSpec.pre6 enc Try.prog Try.f9 Rows.frameOtherRow.domain false) (Rows.frameOtherSpec.post enc Try.prog Try.f9 false true false false) := by
 refine returnsInHanded_of_change_sized (C := Try.checked) own started (by kernel_rfl) Try.func9
  (ChangeSpec.witness6 (enc := enc) (C := Try.checked) false ⟨#[], #[.agg #[.int .i64 0, .int .i64 0, .int .i64 0, .int .i64 0, .int .i64 0, .slice none 0 0], .agg #[.int .i64 0, .int .i64 0, .int .i64 0, .int .i64 0, .int .i64 0, .slice none 0 0], .slice none 0 0, .int .i64 0], []⟩ 8 (by kernel_rfl) (by kernel_rfl) (by kernel_rfl) (by kernel_rfl)) ?_
 intro W base args ds gs before hval0 hW hcnd hsz0 _
 have hsz : (DataW.weightsEach Try.prog (Try.f9.params.toList ++ Rows.frameOtherSpec.plain.varTypes Try.prog) (ds ++ gs)).all (· ≤ reachBytes) = true := hsz0
 have hval : ∀ (j : Nat) t v, Try.f9.params[j]? = some t → args[j]? = some v → Value.okWide Try.prog W .any base t v := hval0
 have hW' := hW
 obtain ⟨p, q, hA0, hV, rfl, hfz, hnd⟩ := hW
 have hA : DataW.TrodAll enc Try.prog W 0 (fun _ => true) true Try.f9.params.toList args.toList ds p := hA0
 rw [Try.params9] at hA hval hsz
 obtain ⟨v0, vs0, d0, ds0, p0, q0, hargs, rfl, rfl, h0, r0⟩ := trodAll_cons hA
 obtain ⟨v1, vs1, d1, ds1, p1, q1, rfl, rfl, rfl, h1, r1⟩ := trodAll_cons r0
 obtain ⟨v2, vs2, d2, ds2, p2, q2, rfl, rfl, rfl, h2, r2⟩ := trodAll_cons r1
 obtain ⟨v3, vs3, d3, ds3, p3, q3, rfl, rfl, rfl, h3, r3⟩ := trodAll_cons r2
 obtain ⟨rfl, rfl, rfl⟩ := trodAll_nil r3
 obtain rfl : args = #[v0, v1, v2, v3] := by cases args; simp_all
 obtain ⟨rfl, rfl⟩ := trodVars_none hV
 have k0 := h0
 have lt0 : ∀ x ∈ p0, x.block < W.heap.size := by obtain ⟨m, hm⟩ := k0; exact DataW.trod_lt m _ _ _ hm
 obtain ⟨y0_, K0, o0⟩ := opens_arg (opens_k24 W) h0
 obtain ⟨cs0, rfl, _⟩ := okWide_struct Try.underlying24 (hval 0 24 v0 rfl rfl)
 obtain ⟨A0_5, C0_5, e0, l0_5, g0_5⟩ := k24_open K0
 obtain rfl : cs0 = #[.int .i64 y0_.f0, .int .i64 y0_.f1, .int .i64 y0_.f2, .int .i64 y0_.f3, .int .i64 y0_.f4, .slice A0_5 y0_.f5.length C0_5] := Array.ext' e0
 have k1 := h1
 have lt1 : ∀ x ∈ p1, x.block < W.heap.size := by obtain ⟨m, hm⟩ := k1; exact DataW.trod_lt m _ _ _ hm
 obtain ⟨y1_, K1, o1⟩ := opens_arg (opens_k29 W) h1
 obtain ⟨cs1, rfl, _⟩ := okWide_struct Try.underlying29 (hval 1 29 v1 rfl rfl)
 obtain ⟨A1_5, C1_5, e1, l1_5, g1_5⟩ := k29_open K1
 obtain rfl : cs1 = #[.int .i64 y1_.f0, .int .i64 y1_.f1, .int .i64 y1_.f2, .int .i64 y1_.f3.f0, .int .i64 y1_.f3.f1, .slice A1_5 y1_.f4.length C1_5] := Array.ext' e1
 have k2 := h2
 have lt2 : ∀ x ∈ p2, x.block < W.heap.size := by obtain ⟨m, hm⟩ := k2; exact DataW.trod_lt m _ _ _ hm
 have y2 : ∀ a len cap, v2 = .slice a len cap → len * 8 ≤ 140737488351232 := fun a len cap e => by subst e; exact Go.Proofs.YtcpohmfkmgcjkaaW.PrintWords.sized_ints hsz (j := 2) (t := 22) rfl rfl Try.underlying22 Try.underlying3 (by kernel_rfl) (by kernel_rfl) h2
 obtain ⟨y2_, K2, o2⟩ := opens_arg (opens_slice W Try.underlying22 (by kernel_rfl) (opens_int W Try.underlying3)) h2
 obtain ⟨A2, C2, e2, l2, g2⟩ := K2
 obtain ⟨z2, n2, m2, rfl⟩ := okWide_slice Try.underlying22 (hval 2 22 v2 rfl rfl)
 simp only [Value.cells, List.cons.injEq, Value.slice.injEq, and_true] at e2
 obtain ⟨rfl, rfl, rfl⟩ := e2
 obtain ⟨a3, rfl, rfl, rfl, w3⟩ := open_int Try.underlying3 (hval 3 3 v3 rfl rfl) h3
 clear hA0 hval0 hsz0 hsz
 refine (P.plaitinglaw5_FrameOther.walk Pure.FrameOther y0_.f0 y0_.f1 y0_.f2 y0_.f3 y0_.f4 A0_5 C0_5 y0_.f5 y1_.f0 y1_.f1 y1_.f2 y1_.f3.f0 y1_.f3.f1 A1_5 C1_5 y1_.f4 _ _ y2_ a3 W o0.1 o0.2.1 o0.2.2.1 o0.2.2.2.1 o0.2.2.2.2.1 o0.2.2.2.2.2 o1.1 o1.2.1 o1.2.2.1 o1.2.2.2.1.1 o1.2.2.2.1.2 o1.2.2.2.2 o2.1 (y2 _ _ _ rfl) o2.2 w3 g0_5 l0_5 g1_5 l1_5 g2 l2).mono fun e W' ⟨he, bel⟩ => ?_
 subst he
 exact ⟨_, rfl, _, _, _, [], _, [], hW', trodAll_mk1 (shut_bool Try.underlying4 _), (trodAll_cons_mk (Below.trod laidOut (by kernel_rfl) (of_decide_eq_true (by kernel_rfl)) k0 bel lt0) (trodAll_cons_mk (Below.trod laidOut (by kernel_rfl) (of_decide_eq_true (by kernel_rfl)) k1 bel lt1) (trodAll_cons_mk (Below.trod laidOut (by kernel_rfl) (of_decide_eq_true (by kernel_rfl)) k2 bel lt2) (trodAll_cons_mk (shut_int Try.underlying3 w3) trodAll_mk0)))), rfl, bel.frame _, fun h => by cases h⟩
theorem over : Rows.frameOtherRow.holds Try.pinned (OpenSpec.ofChange Rows.frameOtherSpec) :=
 OpenClaim.holds_of_wide 9 Try.f9 rfl rfl rfl rfl rfl rfl rfl ⟨rfl, rfl, rfl, rfl, rfl⟩ rfl rfl rfl rfl rfl (by kernel_rfl) Try.func9 (by kernel_rfl)
  (of_decide_eq_true (by kernel_rfl)) (by unfold Func.isWrapper; first | (rw [if_pos (by decide +kernel)]; kernel_rfl) | (rw [if_neg (by decide +kernel)]; exact ⟨rfl, rfl⟩))
  (fun os started H enc _ => lifted os started H enc)
theorem proved : Rows.FrameOtherSaid := over
#print axioms proved
end Go.Proofs.Ytcpohmfkmgcjkaa.frameOther
namespace Go.Proofs.Ytcpohmfkmgcjkaa
theorem frameOther_holds : Rows.FrameOtherSaid := frameOther.proved
end Go.Proofs.Ytcpohmfkmgcjkaa
