/- Proves ScriptChecks: any script is checked as the document says, and one that may be, with one thing turned, too (no condition on the inputs). -/
import Derived.Test.YthihinlamlamhaaRows
import Derived.Test.YthihinlamlamhaaBbE
import Derived.ProofKit
import Derived.OpenShut
import Derived.ShutString
import Derived.ChangeOld
import Derived.Below
import Derived.SizedLaws
namespace Go.Proofs.Ythihinlamlamhaa.scriptChecks
open Go.ChangeShapes Go.WideShapes Go.ChangeAt Go.RowKit Go.Proofs.YthihinlamlamhaaE
open Go.ChangeMaps (open_string shut_string)
set_option linter.unusedVariables false
set_option linter.unusedSimpArgs false
theorem own : ownKnob Try.prog.godebug = none := by kernel_rfl
theorem laidOut : laidOutB Try.prog = true := by kernel_rfl
set_option maxRecDepth 100000 in
theorem lifted (os : Os) (started : os.Started) (H : Type) (enc : TypeId × Value → H) :
    ReturnsInHanded {} Try.checked os 4 .any (Rows.scriptChecksSpec.pre6 enc Try.prog Try.f4 Rows.scriptChecksRow.domain false) (Rows.scriptChecksSpec.post enc Try.prog Try.f4 false true false false) := by
  refine returnsInHanded_of_change_sized (C := Try.checked) own started (by kernel_rfl) Try.func4
    (ChangeSpec.witness6 (enc := enc) (C := Try.checked) false ⟨#[], #[.agg #[.int .i64 0, .int .i64 0, .int .i64 0, .int .i64 0, .int .i64 0, .slice none 0 0], .agg #[.slice none 0 0, .slice none 0 0, .slice none 0 0, .slice none 0 0, .int .i64 0, .int .i64 0, .int .i64 0, .int .i64 0, .slice none 0 0, .slice none 0 0, .int .i64 0], .slice none 0 0, .int .i64 0, .int .i64 0], []⟩ 8 (by kernel_rfl) (by kernel_rfl) (by kernel_rfl) (by kernel_rfl)) ?_
  intro W base args ds gs before hval0 hW hcnd hsz0 _
  have hval : ∀ (j : Nat) t v, Try.f4.params[j]? = some t → args[j]? = some v → Value.okWide Try.prog W .any base t v := hval0
  have hW' := hW
  obtain ⟨p, q, hA0, hV, rfl, hfz, hnd⟩ := hW
  have hA : DataW.TrodAll enc Try.prog W 0 (fun _ => true) true Try.f4.params.toList args.toList ds p := hA0
  rw [Try.params4] at hA hval
  obtain ⟨v0, vs0, d0, ds0, p0, q0, hargs, rfl, rfl, h0, r0⟩ := trodAll_cons hA
  obtain ⟨v1, vs1, d1, ds1, p1, q1, rfl, rfl, rfl, h1, r1⟩ := trodAll_cons r0
  obtain ⟨v2, vs2, d2, ds2, p2, q2, rfl, rfl, rfl, h2, r2⟩ := trodAll_cons r1
  obtain ⟨v3, vs3, d3, ds3, p3, q3, rfl, rfl, rfl, h3, r3⟩ := trodAll_cons r2
  obtain ⟨v4, vs4, d4, ds4, p4, q4, rfl, rfl, rfl, h4, r4⟩ := trodAll_cons r3
  obtain ⟨rfl, rfl, rfl⟩ := trodAll_nil r4
  obtain rfl : args = #[v0, v1, v2, v3, v4] := by cases args; simp_all
  obtain ⟨rfl, rfl⟩ := trodVars_none hV
  have k0 := h0
  have lt0 : ∀ x ∈ p0, x.block < W.heap.size := by obtain ⟨m, hm⟩ := k0; exact DataW.trod_lt m _ _ _ hm
  obtain ⟨cs0, V0, c0⟩ := arg_struct Try.underlying24 (op_conf W) (hval 0 24 v0 rfl rfl) h0
  obtain ⟨n0, a0, b0, x0, f0, nl0, rs0, rfl⟩ := conf_form c0
  have k1 := h1
  have lt1 : ∀ x ∈ p1, x.block < W.heap.size := by obtain ⟨m, hm⟩ := k1; exact DataW.trod_lt m _ _ _ hm
  obtain ⟨cs1, V1, c1⟩ := arg_struct Try.underlying33 (op_scr W) (hval 1 33 v1 rfl rfl) h1
  obtain ⟨ba1, bb1, bc1, bd1, be1, bf1, ra1, rb1, rc1, rd1, re1, rf1, sk1, sa1, sf1, st1, sz1, rfl, l1⟩ := scr_form c1
  have k2 := h2
  have lt2 : ∀ x ∈ p2, x.block < W.heap.size := by obtain ⟨m, hm⟩ := k2; exact DataW.trod_lt m _ _ _ hm
  obtain ⟨nl2, rs2, V2, l2, g2⟩ := arg_slice Try.underlying25 (op_bytes W) (hval 2 25 v2 rfl rfl) h2
  have k3 := h3
  have lt3 : ∀ x ∈ p3, x.block < W.heap.size := by obtain ⟨m, hm⟩ := k3; exact DataW.trod_lt m _ _ _ hm
  obtain ⟨n3, V3, w3⟩ := arg_int (w := W) Try.underlying3 (hval 3 3 v3 rfl rfl) h3
  have k4 := h4
  have lt4 : ∀ x ∈ p4, x.block < W.heap.size := by obtain ⟨m, hm⟩ := k4; exact DataW.trod_lt m _ _ _ hm
  obtain ⟨n4, V4, w4⟩ := arg_int (w := W) Try.underlying3 (hval 4 3 v4 rfl rfl) h4
  clear hA0 hval0 hsz0
  have hv : VL (e0 W) [cf n0 a0 b0 x0 f0 nl0 rs0, .agg [.row ba1 [.int .i64] ra1, .row bb1 [.int .i64] rb1, .row bc1 [.int .i64] rc1, .row bd1 [.int .i64, .int .i64, .int .i64, .int .i64] rd1, .int .i64 sk1, .int .i64 sa1, .int .i64 sf1, .int .i64 st1, .row be1 [.int .i64, .int .i64, .str] re1, .row bf1 [.int .i64] rf1, .int .i64 sz1], .row nl2 [.int .u8] rs2, .int .i64 n3, .int .i64 n4] (#[v0, v1, v2, v3, v4] : Array Value).toList := by
    simp only [VL, and_true]; exact ⟨V0, V1, V2, V3, V4⟩
  refine (law_true ok_prog H0 pr_ok hv (in_ok okTA (checks_holds n0 a0 b0 x0 f0 nl0 rs0 ba1 bb1 bc1 bd1 be1 bf1 ra1 rb1 rc1 rd1 re1 rf1 sk1 sa1 sf1 st1 sz1 l1 nl2 rs2 (bytes_of g2) (vr_nil V2) n3 n4))).mono fun e W' ⟨he, bel⟩ => ?_
  subst he
  exact ⟨_, rfl, _, _, _, [], _, [], hW', trodAll_mk1 (shut_bool Try.underlying4 _), (trodAll_cons_mk (Below.trod laidOut (by kernel_rfl) (of_decide_eq_true (by kernel_rfl)) k0 bel lt0) (trodAll_cons_mk (Below.trod laidOut (by kernel_rfl) (of_decide_eq_true (by kernel_rfl)) k1 bel lt1) (trodAll_cons_mk (Below.trod laidOut (by kernel_rfl) (of_decide_eq_true (by kernel_rfl)) k2 bel lt2) (trodAll_cons_mk (Below.trod laidOut (by kernel_rfl) (of_decide_eq_true (by kernel_rfl)) k3 bel lt3) (trodAll_cons_mk (Below.trod laidOut (by kernel_rfl) (of_decide_eq_true (by kernel_rfl)) k4 bel lt4) trodAll_mk0))))), rfl, bel.frame _, fun h => by cases h⟩
theorem over : Rows.scriptChecksRow.holds Try.pinned (OpenSpec.ofChange Rows.scriptChecksSpec) :=
  OpenClaim.holds_of_wide 4 Try.f4 rfl rfl rfl rfl rfl rfl rfl ⟨rfl, rfl, rfl, rfl, rfl⟩ rfl rfl rfl rfl rfl (by kernel_rfl) Try.func4 (by kernel_rfl)
    (of_decide_eq_true (by kernel_rfl)) (by unfold Func.isWrapper; first | (rw [if_pos (by decide +kernel)]; kernel_rfl) | (rw [if_neg (by decide +kernel)]; exact ⟨rfl, rfl⟩))
    (fun os started H enc _ => lifted os started H enc)
theorem proved : Rows.ScriptChecksSaid := over
#print axioms proved
end Go.Proofs.Ythihinlamlamhaa.scriptChecks
namespace Go.Proofs.Ythihinlamlamhaa
theorem scriptChecks_holds : Rows.ScriptChecksSaid := scriptChecks.proved
end Go.Proofs.Ythihinlamlamhaa
