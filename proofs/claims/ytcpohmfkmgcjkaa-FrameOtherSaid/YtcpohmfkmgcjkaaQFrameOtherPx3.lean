/- Printed by a program of this session (myprint) out of the translation: the functions as plain Lean functions, and that the calls compute them. What counts is Lean's check. -/
import Derived.Lib.SliceRun
import Derived.Test.YtcpohmfkmgcjkaaQFrameOtherPx39
namespace Go.Proofs.Ytcpohmfkmgcjkaa.P
open Go.RowKit Go.Proofs.YtcpohmfkmgcjkaaW.PrintWords Go.Proofs.YtcpohmfkmgcjkaaW.PrintLast Go.Proofs.YtcpohmfkmgcjkaaW.PrintMore
attribute [local go_sem] max2_int min2_int max_two min_two max_three min_three max_four min_four
set_option linter.unusedVariables false
set_option linter.unusedSimpArgs false
attribute [-simp] ByteArray.size_extract ByteArray.size_append ByteArray.extract_append_extract
attribute [-go_sem] ByteArray.size_append'
attribute [local go_sem high] eqA26
def api_Item_69.f (l0 : List S26) : Option (List S26) := if l0.length * 16 ≤ 140737488355328 then some l0 else none
set_option maxHeartbeats 2000000 in
set_option maxRecDepth 100000 in
theorem api_Item_69.calls (A0 : Option Addr) (c0 : Nat) (l0 : List S26) (r : List S26) (w : World) (hr0 : Kd.C k26 w A0 l0.length l0) (hc0 : l0.length ≤ c0) (h : api_Item_69.f l0 = some r) :
  Calls Try.prog 69 #[.slice A0 l0.length c0] w fun e w' => ∃ v0_ : Value, e = .returned (v0_) ∧ Kd.R k26 26 w' w.heap.size (fun _ => True) v0_ r ∧ Below w.heap.size w w' := by
 unfold api_Item_69.f at h
 by_cases hl : l0.length * 16 ≤ 140737488355328
 ·
  rw [if_pos hl] at h
  obtain rfl := Option.some.inj h
  have HR := Aside0.mk hr0
  have heq := fun (w : World) (n : Nat) => Lib.run_eql_slice_nil (P := Try.prog) w 27 26 A0 n c0 0 0 Try.underlying27
  clear hr0 h
  cases A0 with
  | none =>
   have h0 : l0 = [] := by
    cases l0 with
    | nil => rfl
    | cons x xs =>
     obtain ⟨ad, h1, _⟩ := HR.out.2.2 (by simp)
     cases h1
   subst h0
   clear HR hl hc0
   go_enter Try.func69, Try.ntmps69
   go_wp2
   go_ret
   exact ⟨_, rfl, Kd.R_nil _ _ _ _ _, Below.refl _ _⟩
  | some ad =>
   go_enter Try.func69, Try.ntmps69
   go_wp2_with (first | ((with_reducible refine gate_dst (N := 5) rfl ?_); refine Kd.R_lit k26 w.heap.size 26 ?hg (N := 5) ?hd (w0 := w) (xs := ([] : List S26)) (inner := []) (ok := fun _ => True) (okp := fun _ => True) ?hr ?hp (fun _ hk => hk) trivial (Below.refl _ _) (Nat.le_refl _) (by simp) ?_; (case hd => rfl); (case hg => rfl); (case hr => first | (go_simp; done) | (go_simp; rfl)); (case hp => exact (Reps.none _ _)); intro v5 w5 ho5 hb5 hg5 hn5; clear hg5 hn5; have HO := Aside0.mk ho5; have HB := Aside0.mk hb5; clear ho5 hb5) | (at_builtin; refine Kd.R_append_rows k26 (w0 := w) w.heap.size rfl (.tmp 5) (.tmp 6) 27 26 (.agg #[.int .i64 0, .int .i64 0]) 16 rfl Try.underlying27 info26 rfl (by decide) (by omega) v5 [] l0 _ _ _ (fun _ => True) (fun _ => False) rfl rfl HO.out ?aR (fun _ _ h => h) (fun _ h => h.elim) (fun _ _ => trivial) HB.out (below_size HB.out) ?aL ?_; (case aR => exact Kd.C_below HR.out (HB.out)); (case aL => simpa using hl); intro v7 w7 ho7 hb7 hg7 hat7; have HO7 := Aside0.mk ho7; have HB7 := Aside0.mk hb7; clear hg7 hat7 ho7 hb7))
   go_ret
   exact ⟨_, rfl, by simpa using HO7.out, HB7.out⟩
 ·
  rw [if_neg hl] at h
  cases h
end Go.Proofs.Ytcpohmfkmgcjkaa.P
