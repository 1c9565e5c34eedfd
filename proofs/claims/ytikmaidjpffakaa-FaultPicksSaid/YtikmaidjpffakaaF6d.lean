/- Specs of what the laws of fault make. -/
import Derived.Test.YtikmaidjpffakaaF3p
namespace Go.Proofs.YtikmaidjpffakaaE
open Go
set_option linter.unusedVariables false

def s_endA (n k : Int) : Int := if k < n then k else k - n
def s_endB (n k : Int) : Int := if k < n then s_rem (k + 1) n else s_rem (k - n + 2) n
def sEnds : SW := fun args h Q => match args, h with
  | [.int .i64 n, .int .i64 k], [] => Hyp (0 < n ∧ n ≤ 1000 ∧ 0 ≤ k ∧ k < 2 * n) ∧ Q (.tup [.int .i64 (s_endA n k), .int .i64 (s_endB n k)], [])
  | _, _ => False
abbrev shA3 : List K := [.int .i64, .int .i64, .str]
def sFew : SW := fun args h Q => match args, h with
  | [.agg [.int .i64 k, .int .i64 a, .int .i64 f, .int .i64 t, .row nl [.int .i64, .int .i64, .str] rs, .row nl2 [.int .i64] ds]], [] =>
    Hyp (rs.length ≤ 9223372036854775807) ∧ ∀ b : Bool, (b = true → rs.length ≤ 50 ∧ ds.length ≤ 50 ∧ ∀ r ∈ rs, (actText r).size ≤ 1200) → Q (.bool b, [])
  | _, _ => False
def lFew : LW := fun vals h Q => match vals, h with
  | [.ptr 0 0, .int .i64 i], [.box [.int .i64 k, .int .i64 a, .int .i64 f, .int .i64 t, .row nl [.int .i64, .int .i64, .str] rs, .row nl2 [.int .i64] ds]] =>
    Hyp (0 ≤ i ∧ i ≤ rs.length ∧ rs.length ≤ 9223372036854775807 ∧ ∀ r ∈ rs.take i.toNat, (actText r).size ≤ 1200) ∧
      (((∀ r ∈ rs, (actText r).size ≤ 1200) → Q (.exit 0) [.ptr 0 0] [.box [.int .i64 k, .int .i64 a, .int .i64 f, .int .i64 t, .row nl [.int .i64, .int .i64, .str] rs, .row nl2 [.int .i64] ds]]) ∧ Q .ret [.bool false] [])
  | _, _ => False
def s_actR (r : List AV) : Prop := ∃ (how m : Int) (x : ByteArray), r = [.int .i64 how, .int .i64 m, .str x] ∧ (x.size : Int) ≤ 300
def s_fok (n k a f t : Int) (acts : List (List AV)) (ds : List Int) : Prop :=
  0 ≤ k ∧ k ≤ 2 ∧ 0 ≤ f ∧ f < 60 ∧ f ≤ t ∧ t < f + 60 ∧ (k = 0 → a = 0) ∧ (k = 1 → 0 ≤ a ∧ a < n) ∧ (k = 2 → 0 ≤ a ∧ a < 2 * n) ∧ acts.length ≤ 10 ∧ (∀ r ∈ acts, s_actR r) ∧ ds.length ≤ 10
def s6Make : SW := fun args h Q => match args, h with
  | [.agg [.int .i64 n, .int .i64 pi, .int .i64 e, .int .i64 g, .int .i64 fi, .row nl [.int .i64] rs], .agg [.int .i64 k, .int .i64 a, .int .i64 f, .int .i64 t, .row nl1 [.int .i64, .int .i64, .str] acts, .row nl2 [.int .i64] ds]], [] =>
    Hyp (6 ≤ n ∧ n ≤ 12) ∧ ∀ (k' a' f' t' : Int) (nl1' nl2' : Bool) (acts' : List (List AV)) (ds' : List Int), s_fok n k' a' f' t' acts' ds' →
      Q (.agg [.int .i64 k', .int .i64 a', .int .i64 f', .int .i64 t', .row nl1' [.int .i64, .int .i64, .str] acts', .row nl2' [.int .i64] (irow .i64 ds')], [])
  | _, _ => False
/-- The acts' loop: none yet, or some. -/
def lActs : LW := fun vals h Q => match vals, h with
  | [.ptr 0 0, .ptr 1 0, .ptr 2 0, .int .i64 i], [.box [.int .i64 k, .int .i64 a, .int .i64 f, .int .i64 t, .row nl1 [.int .i64, .int .i64, .str] rs, .row nl2 [.int .i64] ds],
      .box [.int .i64 z1, .int .i64 z2, .int .i64 z3, .int .i64 z4, .nils, .nils], .box [.int .i64 k', .int .i64 a', .int .i64 f', .int .i64 t', .nils, .nils]] =>
    Hyp (i = 0) ∧
      (Q (.exit 1) [.ptr 0 0, .ptr 1 0, .ptr 2 0] [.box [.int .i64 k, .int .i64 a, .int .i64 f, .int .i64 t, .row nl1 [.int .i64, .int .i64, .str] rs, .row nl2 [.int .i64] ds],
        .box [.int .i64 z1, .int .i64 z2, .int .i64 z3, .int .i64 z4, .nils, .nils], .box [.int .i64 k', .int .i64 a', .int .i64 f', .int .i64 t', .nils, .nils]] ∧
      ∀ rows : List (List AV), rows.length ≤ 10 → (∀ r ∈ rows, s_actR r) → Q (.exit 1) [.ptr 0 0, .ptr 1 0, .ptr 2 0] [.box [.int .i64 k, .int .i64 a, .int .i64 f, .int .i64 t, .row nl1 [.int .i64, .int .i64, .str] rs, .row nl2 [.int .i64] ds],
        .box [.int .i64 z1, .int .i64 z2, .int .i64 z3, .int .i64 z4, .nils, .nils], .box [.int .i64 k', .int .i64 a', .int .i64 f', .int .i64 t', .sl 3 0 rows.length, .nils], .arr 2 37 [.int .i64, .int .i64, .str] rows])
  | [.ptr 0 0, .ptr 1 0, .ptr 2 0, .int .i64 i], [.box [.int .i64 k, .int .i64 a, .int .i64 f, .int .i64 t, .row nl1 [.int .i64, .int .i64, .str] rs, .row nl2 [.int .i64] ds],
      .box [.int .i64 z1, .int .i64 z2, .int .i64 z3, .int .i64 z4, .nils, .nils], .box [.int .i64 k', .int .i64 a', .int .i64 f', .int .i64 t', .sl 3 0 m, .nils], .arr 2 37 [.int .i64, .int .i64, .str] rows] =>
    (i = m ∧ m ≤ 10 ∧ rows.length = m ∧ ∀ r ∈ rows, s_actR r) ∧
      ∀ rows : List (List AV), rows.length ≤ 10 → (∀ r ∈ rows, s_actR r) → Q (.exit 1) [.ptr 0 0, .ptr 1 0, .ptr 2 0] [.box [.int .i64 k, .int .i64 a, .int .i64 f, .int .i64 t, .row nl1 [.int .i64, .int .i64, .str] rs, .row nl2 [.int .i64] ds],
        .box [.int .i64 z1, .int .i64 z2, .int .i64 z3, .int .i64 z4, .nils, .nils], .box [.int .i64 k', .int .i64 a', .int .i64 f', .int .i64 t', .sl 3 0 rows.length, .nils], .arr 2 37 [.int .i64, .int .i64, .str] rows]
  | _, _ => False
/-- The devs' loop: with acts, or without; none yet, or some. -/
def lDv (i k' a' f' t' z1 z2 z3 z4 : Int) (Q : Ex → List AV → List AObj → Prop) (A D : AV) (rest : List AObj) : Prop := match A, D, rest with
  | .nils, .nils, [] => Hyp (i = 0) ∧
      (Q (.exit 3) [.ptr 0 0, .ptr 1 0] [.box [.int .i64 z1, .int .i64 z2, .int .i64 z3, .int .i64 z4, .nils, .nils], .box [.int .i64 k', .int .i64 a', .int .i64 f', .int .i64 t', .nils, .nils]] ∧
      ∀ zs : List Int, zs.length ≤ 10 → Q (.exit 3) [.ptr 0 0, .ptr 1 0] [.box [.int .i64 z1, .int .i64 z2, .int .i64 z3, .int .i64 z4, .nils, .nils], .box [.int .i64 k', .int .i64 a', .int .i64 f', .int .i64 t', .nils, .sl 2 0 zs.length], .arr 2 3 [.int .i64] (irow .i64 zs)])
  | .nils, .sl 3 0 m, [.arr 2 3 [.int .i64] rows] =>
    (i = m ∧ m ≤ 10 ∧ ∃ zs : List Int, rows = irow .i64 zs ∧ zs.length = m) ∧
      ∀ zs : List Int, zs.length ≤ 10 → Q (.exit 3) [.ptr 0 0, .ptr 1 0] [.box [.int .i64 z1, .int .i64 z2, .int .i64 z3, .int .i64 z4, .nils, .nils], .box [.int .i64 k', .int .i64 a', .int .i64 f', .int .i64 t', .nils, .sl 2 0 zs.length], .arr 2 3 [.int .i64] (irow .i64 zs)]
  | .sl 3 0 m1, .nils, [.arr 2 37 [.int .i64, .int .i64, .str] rows1] => Hyp (i = 0) ∧
      (Q (.exit 3) [.ptr 0 0, .ptr 1 0] [.box [.int .i64 z1, .int .i64 z2, .int .i64 z3, .int .i64 z4, .nils, .nils], .box [.int .i64 k', .int .i64 a', .int .i64 f', .int .i64 t', .sl 2 0 m1, .nils], .arr 2 37 [.int .i64, .int .i64, .str] rows1] ∧
      ∀ zs : List Int, zs.length ≤ 10 → Q (.exit 3) [.ptr 0 0, .ptr 1 0] [.box [.int .i64 z1, .int .i64 z2, .int .i64 z3, .int .i64 z4, .nils, .nils], .box [.int .i64 k', .int .i64 a', .int .i64 f', .int .i64 t', .sl 2 0 m1, .sl 3 0 zs.length], .arr 2 37 [.int .i64, .int .i64, .str] rows1, .arr 2 3 [.int .i64] (irow .i64 zs)])
  | .sl 3 0 m1, .sl 4 0 m, [.arr 2 37 [.int .i64, .int .i64, .str] rows1, .arr 2 3 [.int .i64] rows] =>
    (i = m ∧ m ≤ 10 ∧ ∃ zs : List Int, rows = irow .i64 zs ∧ zs.length = m) ∧
      ∀ zs : List Int, zs.length ≤ 10 → Q (.exit 3) [.ptr 0 0, .ptr 1 0] [.box [.int .i64 z1, .int .i64 z2, .int .i64 z3, .int .i64 z4, .nils, .nils], .box [.int .i64 k', .int .i64 a', .int .i64 f', .int .i64 t', .sl 2 0 m1, .sl 3 0 zs.length], .arr 2 37 [.int .i64, .int .i64, .str] rows1, .arr 2 3 [.int .i64] (irow .i64 zs)]
  | _, _, _ => False
def lDevs : LW := fun vals h Q => match vals, h with
  | [.ptr 0 0, .ptr 1 0, .ptr 2 0, .int .i64 i], .box [.int .i64 k, .int .i64 a, .int .i64 f, .int .i64 t, .row nl1 [.int .i64, .int .i64, .str] rs, .row nl2 [.int .i64] ds] ::
      .box [.int .i64 z1, .int .i64 z2, .int .i64 z3, .int .i64 z4, .nils, .nils] :: .box [.int .i64 k', .int .i64 a', .int .i64 f', .int .i64 t', A, D] :: rest => lDv i k' a' f' t' z1 z2 z3 z4 Q A D rest
  | _, _ => False
def S8 : Sp := ⟨(20, sEnds) :: S7.fn, [(12, 2, lFew), (14, 9, lActs), (14, 15, lDevs)]⟩
def S9 : Sp := ⟨(12, sFew) :: (14, s6Make) :: (20, sEnds) :: S7.fn, []⟩
end Go.Proofs.YtikmaidjpffakaaE
