/- Proves ArbRight: of any text whether it is a frame of that round and slot, and which, is the document's (no condition on the inputs). -/
import Derived.Test.YtcpohmfkmgcjkaaRows
import Derived.Test.YtcpohmfkmgcjkaaQArbRightPureArbRight
import Derived.Test.YtcpohmfkmgcjkaaQArbRightOpensK
import Derived.OpenShut
import Derived.ShutString
import Derived.ChangeOld
import Derived.Test.YtcpohmfkmgcjkaaQArbRightWSized
namespace Go.Proofs.Ytcpohmfkmgcjkaa.arbRight
open Go.ChangeShapes Go.WideShapes Go.ChangeAt Go.RowKit Go.Proofs.Ytcpohmfkmgcjkaa.P
open Go.ChangeMaps (open_string shut_string)
set_option linter.unusedVariables false
theorem own : ownKnob Try.prog.godebug = none := by kernel_rfl
theorem laidOut : laidOutB Try.prog = true := by kernel_rfl
set_option maxRecDepth 100000 in
theorem lifted (os : Os) (started : os.Started) (H : Type) (enc : TypeId × Value → H) :
  ReturnsInHanded {} Try.checked os 13 .any (Rows.arbRightSpec.pre6 enc Try.prog Try.f13 Rows.arbRightRow.domain false) (Rows.arbRightSpec.post enc Try.prog Try.f13 false true false false) := by
 refine returnsInHanded_of_change_sized (C := Try.checked) own started (by kernel_rfl) Try.func13
  (ChangeSpec.witness6 (enc := enc) (C := Try.checked) false ⟨#[], #[.agg #[.int .i64 0, .int .i64 0, .int .i64 0, .int .i64 0, .int .i64 0, .slice none 0 0], .agg #[.int .i64 0, .int .i64 0, .int .i64 0, .int .i64 0, .int .i64 0, .slice none 0 0], .slice none 0 0, .int .i64 0, .int .i64 0, .int .i64 0, .slice none 0 0, .string ByteArray.empty], []⟩ 8 (by kernel_rfl) (by kernel_rfl) (by kernel_rfl) (by kernel_rfl)) ?_
 intro W base args ds gs before hval0 hW hcnd hsz0 _
 have hsz : (DataW.weightsEach Try.prog (Try.f13.params.toList ++ Rows.arbRightSpec.plain.varTypes Try.prog) (ds ++ gs)).all (· ≤ reachBytes) = true := hsz0
 have hval : ∀ (j : Nat) t v, Try.f13.params[j]? = some t → args[j]? = some v → Value.okWide Try.prog W .any base t v := hval0
 have hW' := hW
 obtain ⟨p, q, hA0, hV, rfl, hfz, hnd⟩ := hW
 have hA : DataW.TrodAll enc Try.prog W 0 (fun _ => true) true Try.f13.params.toList args.toList ds p := hA0
 rw [Try.params13] at hA hval hsz
 obtain ⟨v0, vs0, d0, ds0, p0, q0, hargs, rfl, rfl, h0, r0⟩ := trodAll_cons hA
 obtain ⟨v1, vs1, d1, ds1, p1, q1, rfl, rfl, rfl, h1, r1⟩ := trodAll_cons r0
 obtain ⟨v2, vs2, d2, ds2, p2, q2, rfl, rfl, rfl, h2, r2⟩ := trodAll_cons r1
 obtain ⟨v3, vs3, d3, ds3, p3, q3, rfl, rfl, rfl, h3, r3⟩ := trodAll_cons r2
 obtain ⟨v4, vs4, d4, ds4, p4, q4, rfl, rfl, rfl, h4, r4⟩ := trodAll_cons r3
 obtain ⟨v5, vs5, d5, ds5, p5, q5, rfl, rfl, rfl, h5, r5⟩ := trodAll_cons r4
 obtain ⟨v6, vs6, d6, ds6, p6, q6, rfl, rfl, rfl, h6, r6⟩ := trodAll_cons r5
 obtain ⟨v7, vs7, d7, ds7, p7, q7, rfl, rfl, rfl, h7, r7⟩ := trodAll_cons r6
 obtain ⟨rfl, rfl, rfl⟩ := trodAll_nil r7
 obtain rfl : args = #[v0, v1, v2, v3, v4, v5, v6, v7] := by cases args; simp_all
 obtain ⟨rfl, rfl⟩ := trodVars_none hV
 have k0 := h0
 have lt0 : ∀ x ∈ p0, x.block < W.heap.size := by obtain ⟨m, hm⟩ := k0; exact DataW.trod_lt m _ _ _ hm
 obtain ⟨y0_, K0, o0⟩ := opens_arg (opens_k24 W) h0
 obtain ⟨cs0, rfl, _⟩ := okWide_struct Try.underlying24 (hval 0 24 v0 rfl rfl)
 obtain ⟨A0_5, C0_5, e0, l0_5, g0_5⟩ := k24_open K0
 obtain rfl : cs0 = #[.int .i64 y0_.f0, .int .i64 y0_.f1, .int .i64 y0_.f2, .int .i64 y0_.f3, .int .i64 y0_.f4, .slice A0_5 y0_.f5.length C0_5] := Array.ext' e0
 have k1 := h1
 have lt1 : ∀ x ∈ p1, x.block < W.heap.size := by obtain ⟨m, hm⟩ := k1; exact DataW.trod_lt m _ _ _ hm
 obtain ⟨y1_, K1, o1⟩ := opens_arg (opens_k29 W) h1
 obtain ⟨cs1, rfl, _⟩ := okWide_struct Try.underlying29 (hval 1 29 v1 rfl rfl)
 obtain ⟨A1_5, C1_5, e1, l1_5, g1_5⟩ := k29_open K1
 obtain rfl : cs1 = #[.int .i64 y1_.f0, .int .i64 y1_.f1, .int .i64 y1_.f2, .int .i64 y1_.f3.f0, .int .i64 y1_.f3.f1, .slice A1_5 y1_.f4.length C1_5] := Array.ext' e1
 have k2 := h2
 have lt2 : ∀ x ∈ p2, x.block < W.heap.size := by obtain ⟨m, hm⟩ := k2; exact DataW.trod_lt m _ _ _ hm
 have y2 : ∀ a len cap, v2 = .slice a len cap → len * 8 ≤ 140737488351232 := fun a len cap e => by subst e; exact Go.Proofs.YtcpohmfkmgcjkaaW.PrintWords.sized_ints hsz (j := 2) (t := 22) rfl rfl Try.underlying22 Try.underlying3 (by kernel_rfl) (by kernel_rfl) h2
 obtain ⟨y2_, K2, o2⟩ := opens_arg (opens_slice W Try.underlying22 (by kernel_rfl) (opens_int W Try.underlying3)) h2
 obtain ⟨A2, C2, e2, l2, g2⟩ := K2
 obtain ⟨z2, n2, m2, rfl⟩ := okWide_slice Try.underlying22 (hval 2 22 v2 rfl rfl)
 simp only [Value.cells, List.cons.injEq, Value.slice.injEq, and_true] at e2
 obtain ⟨rfl, rfl, rfl⟩ := e2
 obtain ⟨a3, rfl, rfl, rfl, w3⟩ := open_int Try.underlying3 (hval 3 3 v3 rfl rfl) h3
 obtain ⟨a4, rfl, rfl, rfl, w4⟩ := open_int Try.underlying3 (hval 4 3 v4 rfl rfl) h4
 obtain ⟨a5, rfl, rfl, rfl, w5⟩ := open_int Try.underlying3 (hval 5 3 v5 rfl rfl) h5
 have k6 := h6
 have lt6 : ∀ x ∈ p6, x.block < W.heap.size := by obtain ⟨m, hm⟩ := k6; exact DataW.trod_lt m _ _ _ hm
 have y6 : ∀ a len cap, v6 = .slice a len cap → len * 8 ≤ 140737488351232 := fun a len cap e => by subst e; exact Go.Proofs.YtcpohmfkmgcjkaaW.PrintWords.sized_ints hsz (j := 6) (t := 22) rfl rfl Try.underlying22 Try.underlying3 (by kernel_rfl) (by kernel_rfl) h6
 obtain ⟨y6_, K6, o6⟩ := opens_arg (opens_slice W Try.underlying22 (by kernel_rfl) (opens_int W Try.underlying3)) h6
 obtain ⟨A6, C6, e6, l6, g6⟩ := K6
 obtain ⟨z6, n6, m6, rfl⟩ := okWide_slice Try.underlying22 (hval 6 22 v6 rfl rfl)
 simp only [Value.cells, List.cons.injEq, Value.slice.injEq, and_true] at e6
 obtain ⟨rfl, rfl, rfl⟩ := e6
 obtain ⟨a7, rfl, rfl, rfl, y7⟩ := open_string Try.underlying9 (hval 7 9 v7 rfl rfl) h7
 have w7 : a7.size ≤ 140737488351232 := by
  have z := sized_string hsz (j := 7) (t := 9) rfl rfl
  rw [Array.length_toList] at z
  exact z
 clear hA0 hval0 hsz0 hsz
 refine (P.plaitinglaw10_ArbRight.walk Pure.ArbRight y0_.f0 y0_.f1 y0_.f2 y0_.f3 y0_.f4 A0_5 C0_5 y0_.f5 y1_.f0 y1_.f1 y1_.f2 y1_.f3.f0 y1_.f3.f1 A1_5 C1_5 y1_.f4 _ _ y2_ a3 a4 a5 _ _ y6_ a7 W o0.1 o0.2.1 o0.2.2.1 o0.2.2.2.1 o0.2.2.2.2.1 o0.2.2.2.2.2 o1.1 o1.2.1 o1.2.2.1 o1.2.2.2.1.1 o1.2.2.2.1.2 o1.2.2.2.2 o2.1 (y2 _ _ _ rfl) o2.2 w3 w4 w5 o6.1 (y6 _ _ _ rfl) o6.2 w7 g0_5 l0_5 g1_5 l1_5 g2 l2 g6 l6).mono fun e W' ⟨he, bel⟩ => ?_
 subst he
 exact ⟨_, rfl, _, _, _, [], _, [], hW', trodAll_mk1 (shut_bool Try.underlying4 _), (trodAll_cons_mk (Below.trod laidOut (by kernel_rfl) (of_decide_eq_true (by kernel_rfl)) k0 bel lt0) (trodAll_cons_mk (Below.trod laidOut (by kernel_rfl) (of_decide_eq_true (by kernel_rfl)) k1 bel lt1) (trodAll_cons_mk (Below.trod laidOut (by kernel_rfl) (of_decide_eq_true (by kernel_rfl)) k2 bel lt2) (trodAll_cons_mk (shut_int Try.underlying3 w3) (trodAll_cons_mk (shut_int Try.underlying3 w4) (trodAll_cons_mk (shut_int Try.underlying3 w5) (trodAll_cons_mk (Below.trod laidOut (by kernel_rfl) (of_decide_eq_true (by kernel_rfl)) k6 bel lt6) (trodAll_cons_mk (shut_string Try.underlying9 y7) trodAll_mk0)))))))), rfl, bel.frame _, fun h => by cases h⟩
theorem over : Rows.arbRightRow.holds Try.pinned (OpenSpec.ofChange Rows.arbRightSpec) :=
 OpenClaim.holds_of_wide 13 Try.f13 rfl rfl rfl rfl rfl rfl rfl ⟨rfl, rfl, rfl, rfl, rfl⟩ rfl rfl rfl rfl rfl (by kernel_rfl) Try.func13 (by kernel_rfl)
  (of_decide_eq_true (by kernel_rfl)) (by unfold Func.isWrapper; first | (rw [if_pos (by decide +kernel)]; kernel_rfl) | (rw [if_neg (by decide +kernel)]; exact ⟨rfl, rfl⟩))
  (fun os started H enc _ => lifted os started H enc)
theorem proved : Rows.ArbRightSaid := over
#print axioms proved
end Go.Proofs.Ytcpohmfkmgcjkaa.arbRight
namespace Go.Proofs.Ytcpohmfkmgcjkaa
theorem arbRight_holds : Rows.ArbRightSaid := arbRight.proved
end Go.Proofs.Ytcpohmfkmgcjkaa
