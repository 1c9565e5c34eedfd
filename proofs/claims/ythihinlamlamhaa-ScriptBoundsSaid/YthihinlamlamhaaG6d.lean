/- ScriptBounds: its loops. -/
import Derived.Test.YthihinlamlamhaaG5p
namespace Go.Proofs.YthihinlamlamhaaE
open Go
set_option linter.unusedVariables false

def s_p1 (rs : List (List AV)) : Prop := ∀ r ∈ rs, 0 ≤ (r.getD 0 AV.gone).toI ∧ (r.getD 0 AV.gone).toI ≤ 23
def s_p2 (n np : Int) (rs : List (List AV)) : Prop := ∀ r ∈ rs, (0 ≤ (r.getD 0 AV.gone).toI ∧ (r.getD 0 AV.gone).toI ≤ 59) ∧ (0 ≤ (r.getD 1 AV.gone).toI ∧ (r.getD 1 AV.gone).toI < n) ∧ (0 ≤ (r.getD 2 AV.gone).toI ∧ (r.getD 2 AV.gone).toI ≤ np) ∧ (0 ≤ (r.getD 3 AV.gone).toI ∧ (r.getD 3 AV.gone).toI ≤ 255)
def s_p3 (rs : List (List AV)) : Prop := ∀ r ∈ rs, (0 ≤ (r.getD 0 AV.gone).toI ∧ (r.getD 0 AV.gone).toI ≤ 6) ∧ (0 ≤ (r.getD 1 AV.gone).toI ∧ (r.getD 1 AV.gone).toI ≤ 255) ∧ (r.getD 2 AV.gone).toS.size ≤ 3
def lB1 : LW := fun vals h Q => match vals, h with
  | [.ptr 0 0, .ptr 1 0, .int .i64 i], [.box [.int .i64 n, .int .i64 pi, .int .i64 e, .int .i64 g, .int .i64 fi, .row nl [.int .i64] ps],
      .box [.row b0 [.int .i64] r0, .row b1 [.int .i64] r1, .row b2 [.int .i64] r2, .row b3 [.int .i64, .int .i64, .int .i64, .int .i64] r3, .int .i64 k, .int .i64 a, .int .i64 f, .int .i64 t, .row b4 [.int .i64, .int .i64, .str] r4, .row b5 [.int .i64] r5, .int .i64 z]] =>
    Hyp (0 ≤ i ∧ i ≤ r0.length ∧ r0.length ≤ 1000 ∧ s_p1 r0) ∧ Q (.exit 0) [.ptr 0 0, .ptr 1 0] [.box [.int .i64 n, .int .i64 pi, .int .i64 e, .int .i64 g, .int .i64 fi, .row nl [.int .i64] ps],
      .box [.row b0 [.int .i64] r0, .row b1 [.int .i64] r1, .row b2 [.int .i64] r2, .row b3 [.int .i64, .int .i64, .int .i64, .int .i64] r3, .int .i64 k, .int .i64 a, .int .i64 f, .int .i64 t, .row b4 [.int .i64, .int .i64, .str] r4, .row b5 [.int .i64] r5, .int .i64 z]]
  | _, _ => False
def lB2 : LW := fun vals h Q => match vals, h with
  | [.ptr 0 0, .ptr 1 0, .int .i64 i], [.box [.int .i64 n, .int .i64 pi, .int .i64 e, .int .i64 g, .int .i64 fi, .row nl [.int .i64] ps],
      .box [.row b0 [.int .i64] r0, .row b1 [.int .i64] r1, .row b2 [.int .i64] r2, .row b3 [.int .i64, .int .i64, .int .i64, .int .i64] r3, .int .i64 k, .int .i64 a, .int .i64 f, .int .i64 t, .row b4 [.int .i64, .int .i64, .str] r4, .row b5 [.int .i64] r5, .int .i64 z]] =>
    Hyp (0 ≤ i ∧ i ≤ r3.length ∧ r3.length ≤ 1000 ∧ s_p2 n ps.length r3) ∧ Q (.exit 2) [.ptr 0 0] [
      .box [.row b0 [.int .i64] r0, .row b1 [.int .i64] r1, .row b2 [.int .i64] r2, .row b3 [.int .i64, .int .i64, .int .i64, .int .i64] r3, .int .i64 k, .int .i64 a, .int .i64 f, .int .i64 t, .row b4 [.int .i64, .int .i64, .str] r4, .row b5 [.int .i64] r5, .int .i64 z]]
  | _, _ => False
def lB3 : LW := fun vals h Q => match vals, h with
  | [.ptr 0 0, .int .i64 i], [.box [.row b0 [.int .i64] r0, .row b1 [.int .i64] r1, .row b2 [.int .i64] r2, .row b3 [.int .i64, .int .i64, .int .i64, .int .i64] r3, .int .i64 k, .int .i64 a, .int .i64 f, .int .i64 t, .row b4 [.int .i64, .int .i64, .str] r4, .row b5 [.int .i64] r5, .int .i64 z]] =>
    Hyp (0 ≤ i ∧ i ≤ r4.length ∧ r4.length ≤ 1000 ∧ s_p3 r4) ∧ Q (.exit 4) [.ptr 0 0] [
      .box [.row b0 [.int .i64] r0, .row b1 [.int .i64] r1, .row b2 [.int .i64] r2, .row b3 [.int .i64, .int .i64, .int .i64, .int .i64] r3, .int .i64 k, .int .i64 a, .int .i64 f, .int .i64 t, .row b4 [.int .i64, .int .i64, .str] r4, .row b5 [.int .i64] r5, .int .i64 z]]
  | _, _ => False
def S7B : Sp := ⟨S7.fn, [(7, 10, lB1), (7, 15, lB2), (7, 21, lB3)]⟩
end Go.Proofs.YthihinlamlamhaaE
