/- Specs of what the laws of fault make. -/
import Derived.Test.YtiemjcchlfbglaaGreatBcA
import Derived.KernelRfl
import Derived.Test.YtiemjcchlfbglaaGreatBcJ
import Derived.Test.YtiemjcchlfbglaaGreatBcC
namespace Go.Proofs.YtiemjcchlfbglaaGreatE
open Go
set_option linter.unusedVariables false

abbrev shA3 : List K := [.int .i64, .int .i64, .str]
def sFew : SW := fun args h Q => match args, h with
  | [.agg [.int .i64 k, .int .i64 a, .int .i64 f, .int .i64 t, .row nl [.int .i64, .int .i64, .str] rs, .row nl2 [.int .i64] ds]], [] =>
    Hyp (rs.length ≤ 9223372036854775807) ∧ ∀ b : Bool, (b = true → rs.length ≤ 50 ∧ ds.length ≤ 50 ∧ ∀ r ∈ rs, (actText r).size ≤ 1200) → Q (.bool b, [])
  | _, _ => False
def lFew : LW := fun vals h Q => match vals, h with
  | [.ptr 0 0, .int .i64 i], [.box [.int .i64 k, .int .i64 a, .int .i64 f, .int .i64 t, .row nl [.int .i64, .int .i64, .str] rs, .row nl2 [.int .i64] ds]] =>
    Hyp (0 ≤ i ∧ i ≤ rs.length ∧ rs.length ≤ 9223372036854775807 ∧ ∀ r ∈ rs.take i.toNat, (actText r).size ≤ 1200) ∧
      (((∀ r ∈ rs, (actText r).size ≤ 1200) → Q (.exit 0) [.ptr 0 0] [.box [.int .i64 k, .int .i64 a, .int .i64 f, .int .i64 t, .row nl [.int .i64, .int .i64, .str] rs, .row nl2 [.int .i64] ds]]) ∧ Q .ret [.bool false] [])
  | _, _ => False
def s_actR (r : List AV) : Prop := ∃ (how m : Int) (x : ByteArray), r = [.int .i64 how, .int .i64 m, .str x] ∧ (x.size : Int) ≤ 300
def s_fok (n k a f t : Int) (acts : List (List AV)) (ds : List Int) : Prop :=
  0 ≤ k ∧ k ≤ 2 ∧ 0 ≤ f ∧ f < 60 ∧ f ≤ t ∧ t < f + 60 ∧ (k = 0 → a = 0) ∧ (k = 1 → 0 ≤ a ∧ a < n) ∧ (k = 2 → 0 ≤ a ∧ a < 2 * n) ∧ acts.length ≤ 10 ∧ (∀ r ∈ acts, s_actR r) ∧ ds.length ≤ 10
def s6Make : SW := fun args h Q => match args, h with
  | [.agg [.int .i64 n, .int .i64 pi, .int .i64 e, .int .i64 g, .int .i64 fi, .row nl [.int .i64] rs], .agg [.int .i64 k, .int .i64 a, .int .i64 f, .int .i64 t, .row nl1 [.int .i64, .int .i64, .str] acts, .row nl2 [.int .i64] ds]], [] =>
    Hyp (6 ≤ n ∧ n ≤ 12) ∧ ∀ (k' a' f' t' : Int) (nl1' nl2' : Bool) (acts' : List (List AV)) (ds' : List Int), s_fok n k' a' f' t' acts' ds' →
      Q (.agg [.int .i64 k', .int .i64 a', .int .i64 f', .int .i64 t', .row nl1' [.int .i64, .int .i64, .str] acts', .row nl2' [.int .i64] (irow .i64 ds')], [])
  | _, _ => False
/-- The acts' loop: none yet, or some. -/
def lActs : LW := fun vals h Q => match vals, h with
  | [.ptr 0 0, .ptr 1 0, .ptr 2 0, .int .i64 i], [.box [.int .i64 k, .int .i64 a, .int .i64 f, .int .i64 t, .row nl1 [.int .i64, .int .i64, .str] rs, .row nl2 [.int .i64] ds],
      .box [.int .i64 z1, .int .i64 z2, .int .i64 z3, .int .i64 z4, .nils, .nils], .box [.int .i64 k', .int .i64 a', .int .i64 f', .int .i64 t', .nils, .nils]] =>
    Hyp (i = 0) ∧
      (Q (.exit 1) [.ptr 0 0, .ptr 1 0, .ptr 2 0] [.box [.int .i64 k, .int .i64 a, .int .i64 f, .int .i64 t, .row nl1 [.int .i64, .int .i64, .str] rs, .row nl2 [.int .i64] ds],
        .box [.int .i64 z1, .int .i64 z2, .int .i64 z3, .int .i64 z4, .nils, .nils], .box [.int .i64 k', .int .i64 a', .int .i64 f', .int .i64 t', .nils, .nils]] ∧
      ∀ rows : List (List AV), rows.length ≤ 10 → (∀ r ∈ rows, s_actR r) → Q (.exit 1) [.ptr 0 0, .ptr 1 0, .ptr 2 0] [.box [.int .i64 k, .int .i64 a, .int .i64 f, .int .i64 t, .row nl1 [.int .i64, .int .i64, .str] rs, .row nl2 [.int .i64] ds],
        .box [.int .i64 z1, .int .i64 z2, .int .i64 z3, .int .i64 z4, .nils, .nils], .box [.int .i64 k', .int .i64 a', .int .i64 f', .int .i64 t', .sl 3 0 rows.length, .nils], .arr 2 66 [.int .i64, .int .i64, .str] rows])
  | [.ptr 0 0, .ptr 1 0, .ptr 2 0, .int .i64 i], [.box [.int .i64 k, .int .i64 a, .int .i64 f, .int .i64 t, .row nl1 [.int .i64, .int .i64, .str] rs, .row nl2 [.int .i64] ds],
      .box [.int .i64 z1, .int .i64 z2, .int .i64 z3, .int .i64 z4, .nils, .nils], .box [.int .i64 k', .int .i64 a', .int .i64 f', .int .i64 t', .sl 3 0 m, .nils], .arr 2 66 [.int .i64, .int .i64, .str] rows] =>
    (i = m ∧ m ≤ 10 ∧ rows.length = m ∧ ∀ r ∈ rows, s_actR r) ∧
      ∀ rows : List (List AV), rows.length ≤ 10 → (∀ r ∈ rows, s_actR r) → Q (.exit 1) [.ptr 0 0, .ptr 1 0, .ptr 2 0] [.box [.int .i64 k, .int .i64 a, .int .i64 f, .int .i64 t, .row nl1 [.int .i64, .int .i64, .str] rs, .row nl2 [.int .i64] ds],
        .box [.int .i64 z1, .int .i64 z2, .int .i64 z3, .int .i64 z4, .nils, .nils], .box [.int .i64 k', .int .i64 a', .int .i64 f', .int .i64 t', .sl 3 0 rows.length, .nils], .arr 2 66 [.int .i64, .int .i64, .str] rows]
  | _, _ => False
/-- The devs' loop: with acts, or without; none yet, or some. -/
def lDv (i k' a' f' t' z1 z2 z3 z4 : Int) (Q : Ex → List AV → List AObj → Prop) (A D : AV) (rest : List AObj) : Prop := match A, D, rest with
  | .nils, .nils, [] => Hyp (i = 0) ∧
      (Q (.exit 3) [.ptr 0 0, .ptr 1 0] [.box [.int .i64 z1, .int .i64 z2, .int .i64 z3, .int .i64 z4, .nils, .nils], .box [.int .i64 k', .int .i64 a', .int .i64 f', .int .i64 t', .nils, .nils]] ∧
      ∀ zs : List Int, zs.length ≤ 10 → Q (.exit 3) [.ptr 0 0, .ptr 1 0] [.box [.int .i64 z1, .int .i64 z2, .int .i64 z3, .int .i64 z4, .nils, .nils], .box [.int .i64 k', .int .i64 a', .int .i64 f', .int .i64 t', .nils, .sl 2 0 zs.length], .arr 2 3 [.int .i64] (irow .i64 zs)])
  | .nils, .sl 3 0 m, [.arr 2 3 [.int .i64] rows] =>
    (i = m ∧ m ≤ 10 ∧ ∃ zs : List Int, rows = irow .i64 zs ∧ zs.length = m) ∧
      ∀ zs : List Int, zs.length ≤ 10 → Q (.exit 3) [.ptr 0 0, .ptr 1 0] [.box [.int .i64 z1, .int .i64 z2, .int .i64 z3, .int .i64 z4, .nils, .nils], .box [.int .i64 k', .int .i64 a', .int .i64 f', .int .i64 t', .nils, .sl 2 0 zs.length], .arr 2 3 [.int .i64] (irow .i64 zs)]
  | .sl 3 0 m1, .nils, [.arr 2 66 [.int .i64, .int .i64, .str] rows1] => Hyp (i = 0) ∧
      (Q (.exit 3) [.ptr 0 0, .ptr 1 0] [.box [.int .i64 z1, .int .i64 z2, .int .i64 z3, .int .i64 z4, .nils, .nils], .box [.int .i64 k', .int .i64 a', .int .i64 f', .int .i64 t', .sl 2 0 m1, .nils], .arr 2 66 [.int .i64, .int .i64, .str] rows1] ∧
      ∀ zs : List Int, zs.length ≤ 10 → Q (.exit 3) [.ptr 0 0, .ptr 1 0] [.box [.int .i64 z1, .int .i64 z2, .int .i64 z3, .int .i64 z4, .nils, .nils], .box [.int .i64 k', .int .i64 a', .int .i64 f', .int .i64 t', .sl 2 0 m1, .sl 3 0 zs.length], .arr 2 66 [.int .i64, .int .i64, .str] rows1, .arr 2 3 [.int .i64] (irow .i64 zs)])
  | .sl 3 0 m1, .sl 4 0 m, [.arr 2 66 [.int .i64, .int .i64, .str] rows1, .arr 2 3 [.int .i64] rows] =>
    (i = m ∧ m ≤ 10 ∧ ∃ zs : List Int, rows = irow .i64 zs ∧ zs.length = m) ∧
      ∀ zs : List Int, zs.length ≤ 10 → Q (.exit 3) [.ptr 0 0, .ptr 1 0] [.box [.int .i64 z1, .int .i64 z2, .int .i64 z3, .int .i64 z4, .nils, .nils], .box [.int .i64 k', .int .i64 a', .int .i64 f', .int .i64 t', .sl 2 0 m1, .sl 3 0 zs.length], .arr 2 66 [.int .i64, .int .i64, .str] rows1, .arr 2 3 [.int .i64] (irow .i64 zs)]
  | _, _, _ => False
def lDevs : LW := fun vals h Q => match vals, h with
  | [.ptr 0 0, .ptr 1 0, .ptr 2 0, .int .i64 i], .box [.int .i64 k, .int .i64 a, .int .i64 f, .int .i64 t, .row nl1 [.int .i64, .int .i64, .str] rs, .row nl2 [.int .i64] ds] ::
      .box [.int .i64 z1, .int .i64 z2, .int .i64 z3, .int .i64 z4, .nils, .nils] :: .box [.int .i64 k', .int .i64 a', .int .i64 f', .int .i64 t', A, D] :: rest => lDv i k' a' f' t' z1 z2 z3 z4 Q A D rest
  | _, _ => False
def S8 : Sp := ⟨S7.fn, [(8, 2, lFew), (29, 9, lActs), (29, 15, lDevs)]⟩
def S9 : Sp := ⟨(8, sFew) :: (29, s6Make) :: S7.fn, []⟩
end Go.Proofs.YtiemjcchlfbglaaGreatE
/- What path mode says of functions, printed by a program of this session; the kernel holds each. -/
namespace Go.Proofs.YtiemjcchlfbglaaGreatE
open Go
set_option maxRecDepth 100000
set_option linter.unusedVariables false
theorem nfFew (k a f t : Int) (nl nl2 : Bool) (rs ds : List (List AV)) (Q : AV × List AObj → Prop) : inlW Tryz.prog H0 S8 6 (InO Tryz.prog H0 S8 6 6) 8 [.agg [.int .i64 k, .int .i64 a, .int .i64 f, .int .i64 t, .row nl [.int .i64, .int .i64, .str] rs, .row nl2 [.int .i64] ds]] [] Q = (
((Hyp ((0 : Int) ≤ (0 : Int) ∧
  (0 : Int) ≤ (↑rs.length : Int) ∧
    rs.length ≤ (9223372036854775807 : Nat) ∧
      ∀ (r : List AV), r ∈ List.take (Int.toNat (0 : Int)) rs → (actText r).size ≤ (1200 : Nat))) ∧
(((((∀ (r : List AV), r ∈ rs → (actText r).size ≤ (1200 : Nat)) →
br (decide ((↑rs.length : Int) ≤ (50 : Int)))
 (Q ((AV.bool (decide ((↑ds.length : Int) ≤ (50 : Int))), [])))
 (Q ((AV.bool false, []))))) ∧
(Q ((AV.bool false, []))))))) := by kernel_rfl
theorem nfFewa (i k a f t : Int) (nl nl2 : Bool) (rs ds : List (List AV)) (Q : Ex → List AV → List AObj → Prop) : lpBody Tryz.prog H0 S7 6 6 8 2 [.ptr 0 0, .int .i64 i] [.box [.int .i64 k, .int .i64 a, .int .i64 f, .int .i64 t, .row nl [.int .i64, .int .i64, .str] rs, .row nl2 [.int .i64] ds]] Q = (
br (decide (i < (↑rs.length : Int)))
 (chk ((0 : Int) ≤ i ∧ i < (↑rs.length : Int)) (br (decide ((↑((rs.getD i.toNat []).getD (2 : Nat) AV.gone).toS.size : Int) > (1200 : Int)))
  (Q (Ex.ret) ([AV.bool false]) ([]))
  (Q (Ex.nrm) ([AV.ptr (0 : Nat) (0 : Nat), AV.int IntKind.i64 (IntKind.i64.wrap (i + (1 : Int)))]) ([AObj.box
    [AV.int IntKind.i64 k, AV.int IntKind.i64 a, AV.int IntKind.i64 f, AV.int IntKind.i64 t,
      AV.row nl [K.int IntKind.i64, K.int IntKind.i64, K.str] rs, AV.row nl2 [K.int IntKind.i64] ds]]))))
 (Q (Ex.exit (0 : Nat)) ([AV.ptr (0 : Nat) (0 : Nat)]) ([AObj.box
    [AV.int IntKind.i64 k, AV.int IntKind.i64 a, AV.int IntKind.i64 f, AV.int IntKind.i64 t,
      AV.row nl [K.int IntKind.i64, K.int IntKind.i64, K.str] rs, AV.row nl2 [K.int IntKind.i64] ds]]))) := by kernel_rfl
theorem nfFMake (n pi e g fi k a f t : Int) (nl nl1 nl2 : Bool) (rs acts ds : List (List AV)) (Q : AV × List AObj → Prop) : inlW Tryz.prog H0 S8 6 (InO Tryz.prog H0 S8 6 6) 29 [cf n pi e g fi nl rs, .agg [.int .i64 k, .int .i64 a, .int .i64 f, .int .i64 t, .row nl1 [.int .i64, .int .i64, .str] acts, .row nl2 [.int .i64] ds]] [] Q = (
br (s_rem k (3 : Int) == (1 : Int))
 (chk ((0 : Int) < n ∧ n < (9223372036854775808 : Int)) (((Hyp ((0 : Int) = (0 : Int))) ∧
 (((((Hyp ((0 : Int) = (0 : Int))) ∧
 (((Q ((AV.agg
    [AV.int IntKind.i64 (s_rem k (3 : Int)), AV.int IntKind.i64 (s_rem a n), AV.int IntKind.i64 (s_rem f (60 : Int)),
      AV.int IntKind.i64 (IntKind.i64.wrap (s_rem f (60 : Int) + s_rem t (60 : Int))),
      AV.row true [K.int IntKind.i64, K.int IntKind.i64, K.str] [], AV.row true [K.int IntKind.i64] []],
  []))) ∧
 ((∀ (zs106 : List Int),
 ((zs106.length ≤ (10 : Nat)) →
 chk ((0 : Nat) + zs106.length ≤ (List.map (fun n => [AV.int IntKind.i64 n]) zs106).length) (Q ((AV.agg
    [AV.int IntKind.i64 (s_rem k (3 : Int)), AV.int IntKind.i64 (s_rem a n), AV.int IntKind.i64 (s_rem f (60 : Int)),
      AV.int IntKind.i64 (IntKind.i64.wrap (s_rem f (60 : Int) + s_rem t (60 : Int))),
      AV.row true [K.int IntKind.i64, K.int IntKind.i64, K.str] [],
      AV.row false [K.int IntKind.i64]
        (List.take zs106.length (List.drop (0 : Nat) (List.map (fun n => [AV.int IntKind.i64 n]) zs106)))],
  [])))))))))) ∧
 ((∀ (rows104 : List (List AV)),
 ((rows104.length ≤ (10 : Nat)) →
 ((∀ (r : List AV), r ∈ rows104 → s_actR r) →
 ((Hyp ((0 : Int) = (0 : Int))) ∧
 (((chk ((0 : Nat) + rows104.length ≤ rows104.length) (Q ((AV.agg
    [AV.int IntKind.i64 (s_rem k (3 : Int)), AV.int IntKind.i64 (s_rem a n), AV.int IntKind.i64 (s_rem f (60 : Int)),
      AV.int IntKind.i64 (IntKind.i64.wrap (s_rem f (60 : Int) + s_rem t (60 : Int))),
      AV.row false [K.int IntKind.i64, K.int IntKind.i64, K.str]
        (List.take rows104.length (List.drop (0 : Nat) rows104)),
      AV.row true [K.int IntKind.i64] []],
  [])))) ∧
 ((∀ (zs109 : List Int),
 ((zs109.length ≤ (10 : Nat)) →
 chk ((0 : Nat) + rows104.length ≤ rows104.length) (chk ((0 : Nat) + zs109.length ≤ (List.map (fun n => [AV.int IntKind.i64 n]) zs109).length) (Q ((AV.agg
    [AV.int IntKind.i64 (s_rem k (3 : Int)), AV.int IntKind.i64 (s_rem a n), AV.int IntKind.i64 (s_rem f (60 : Int)),
      AV.int IntKind.i64 (IntKind.i64.wrap (s_rem f (60 : Int) + s_rem t (60 : Int))),
      AV.row false [K.int IntKind.i64, K.int IntKind.i64, K.str]
        (List.take rows104.length (List.drop (0 : Nat) rows104)),
      AV.row false [K.int IntKind.i64]
        (List.take zs109.length (List.drop (0 : Nat) (List.map (fun n => [AV.int IntKind.i64 n]) zs109)))],
  [])))))))))))))))))))
 (br (s_rem k (3 : Int) == (2 : Int))
  (chk ((0 : Int) < IntKind.i64.wrap ((2 : Int) * n) ∧ IntKind.i64.wrap ((2 : Int) * n) < (9223372036854775808 : Int)) (((Hyp ((0 : Int) = (0 : Int))) ∧
  (((((Hyp ((0 : Int) = (0 : Int))) ∧
  (((Q ((AV.agg
    [AV.int IntKind.i64 (s_rem k (3 : Int)), AV.int IntKind.i64 (s_rem a (IntKind.i64.wrap ((2 : Int) * n))),
      AV.int IntKind.i64 (s_rem f (60 : Int)),
      AV.int IntKind.i64 (IntKind.i64.wrap (s_rem f (60 : Int) + s_rem t (60 : Int))),
      AV.row true [K.int IntKind.i64, K.int IntKind.i64, K.str] [], AV.row true [K.int IntKind.i64] []],
  []))) ∧
  ((∀ (zs107 : List Int),
  ((zs107.length ≤ (10 : Nat)) →
  chk ((0 : Nat) + zs107.length ≤ (List.map (fun n => [AV.int IntKind.i64 n]) zs107).length) (Q ((AV.agg
    [AV.int IntKind.i64 (s_rem k (3 : Int)), AV.int IntKind.i64 (s_rem a (IntKind.i64.wrap ((2 : Int) * n))),
      AV.int IntKind.i64 (s_rem f (60 : Int)),
      AV.int IntKind.i64 (IntKind.i64.wrap (s_rem f (60 : Int) + s_rem t (60 : Int))),
      AV.row true [K.int IntKind.i64, K.int IntKind.i64, K.str] [],
      AV.row false [K.int IntKind.i64]
        (List.take zs107.length (List.drop (0 : Nat) (List.map (fun n => [AV.int IntKind.i64 n]) zs107)))],
  [])))))))))) ∧
  ((∀ (rows105 : List (List AV)),
  ((rows105.length ≤ (10 : Nat)) →
  ((∀ (r : List AV), r ∈ rows105 → s_actR r) →
  ((Hyp ((0 : Int) = (0 : Int))) ∧
  (((chk ((0 : Nat) + rows105.length ≤ rows105.length) (Q ((AV.agg
    [AV.int IntKind.i64 (s_rem k (3 : Int)), AV.int IntKind.i64 (s_rem a (IntKind.i64.wrap ((2 : Int) * n))),
      AV.int IntKind.i64 (s_rem f (60 : Int)),
      AV.int IntKind.i64 (IntKind.i64.wrap (s_rem f (60 : Int) + s_rem t (60 : Int))),
      AV.row false [K.int IntKind.i64, K.int IntKind.i64, K.str]
        (List.take rows105.length (List.drop (0 : Nat) rows105)),
      AV.row true [K.int IntKind.i64] []],
  [])))) ∧
  ((∀ (zs110 : List Int),
  ((zs110.length ≤ (10 : Nat)) →
  chk ((0 : Nat) + rows105.length ≤ rows105.length) (chk ((0 : Nat) + zs110.length ≤ (List.map (fun n => [AV.int IntKind.i64 n]) zs110).length) (Q ((AV.agg
    [AV.int IntKind.i64 (s_rem k (3 : Int)), AV.int IntKind.i64 (s_rem a (IntKind.i64.wrap ((2 : Int) * n))),
      AV.int IntKind.i64 (s_rem f (60 : Int)),
      AV.int IntKind.i64 (IntKind.i64.wrap (s_rem f (60 : Int) + s_rem t (60 : Int))),
      AV.row false [K.int IntKind.i64, K.int IntKind.i64, K.str]
        (List.take rows105.length (List.drop (0 : Nat) rows105)),
      AV.row false [K.int IntKind.i64]
        (List.take zs110.length (List.drop (0 : Nat) (List.map (fun n => [AV.int IntKind.i64 n]) zs110)))],
  [])))))))))))))))))))
  (((Hyp ((0 : Int) = (0 : Int))) ∧
  (((((Hyp ((0 : Int) = (0 : Int))) ∧
  (((Q ((AV.agg
    [AV.int IntKind.i64 (s_rem k (3 : Int)), AV.int IntKind.i64 (0 : Int), AV.int IntKind.i64 (s_rem f (60 : Int)),
      AV.int IntKind.i64 (IntKind.i64.wrap (s_rem f (60 : Int) + s_rem t (60 : Int))),
      AV.row true [K.int IntKind.i64, K.int IntKind.i64, K.str] [], AV.row true [K.int IntKind.i64] []],
  []))) ∧
  ((∀ (zs106 : List Int),
  ((zs106.length ≤ (10 : Nat)) →
  chk ((0 : Nat) + zs106.length ≤ (List.map (fun n => [AV.int IntKind.i64 n]) zs106).length) (Q ((AV.agg
    [AV.int IntKind.i64 (s_rem k (3 : Int)), AV.int IntKind.i64 (0 : Int), AV.int IntKind.i64 (s_rem f (60 : Int)),
      AV.int IntKind.i64 (IntKind.i64.wrap (s_rem f (60 : Int) + s_rem t (60 : Int))),
      AV.row true [K.int IntKind.i64, K.int IntKind.i64, K.str] [],
      AV.row false [K.int IntKind.i64]
        (List.take zs106.length (List.drop (0 : Nat) (List.map (fun n => [AV.int IntKind.i64 n]) zs106)))],
  [])))))))))) ∧
  ((∀ (rows104 : List (List AV)),
  ((rows104.length ≤ (10 : Nat)) →
  ((∀ (r : List AV), r ∈ rows104 → s_actR r) →
  ((Hyp ((0 : Int) = (0 : Int))) ∧
  (((chk ((0 : Nat) + rows104.length ≤ rows104.length) (Q ((AV.agg
    [AV.int IntKind.i64 (s_rem k (3 : Int)), AV.int IntKind.i64 (0 : Int), AV.int IntKind.i64 (s_rem f (60 : Int)),
      AV.int IntKind.i64 (IntKind.i64.wrap (s_rem f (60 : Int) + s_rem t (60 : Int))),
      AV.row false [K.int IntKind.i64, K.int IntKind.i64, K.str]
        (List.take rows104.length (List.drop (0 : Nat) rows104)),
      AV.row true [K.int IntKind.i64] []],
  [])))) ∧
  ((∀ (zs109 : List Int),
  ((zs109.length ≤ (10 : Nat)) →
  chk ((0 : Nat) + rows104.length ≤ rows104.length) (chk ((0 : Nat) + zs109.length ≤ (List.map (fun n => [AV.int IntKind.i64 n]) zs109).length) (Q ((AV.agg
    [AV.int IntKind.i64 (s_rem k (3 : Int)), AV.int IntKind.i64 (0 : Int), AV.int IntKind.i64 (s_rem f (60 : Int)),
      AV.int IntKind.i64 (IntKind.i64.wrap (s_rem f (60 : Int) + s_rem t (60 : Int))),
      AV.row false [K.int IntKind.i64, K.int IntKind.i64, K.str]
        (List.take rows104.length (List.drop (0 : Nat) rows104)),
      AV.row false [K.int IntKind.i64]
        (List.take zs109.length (List.drop (0 : Nat) (List.map (fun n => [AV.int IntKind.i64 n]) zs109)))],
  [])))))))))))))))))))) := by kernel_rfl
theorem nfFMakea (i k a f t k' a' f' t' z1 z2 z3 z4 : Int) (nl1 nl2 : Bool) (rs ds : List (List AV)) (Q : Ex → List AV → List AObj → Prop) : lpBody Tryz.prog H0 S7 6 6 29 9 [.ptr 0 0, .ptr 1 0, .ptr 2 0, .int .i64 i] [.box [.int .i64 k, .int .i64 a, .int .i64 f, .int .i64 t, .row nl1 [.int .i64, .int .i64, .str] rs, .row nl2 [.int .i64] ds], .box [.int .i64 z1, .int .i64 z2, .int .i64 z3, .int .i64 z4, .nils, .nils], .box [.int .i64 k', .int .i64 a', .int .i64 f', .int .i64 t', .nils, .nils]] Q = (
br (decide (i < (↑rs.length : Int)))
 (br (decide (i < (10 : Int)))
  (chk ((0 : Int) ≤ i ∧ i < (↑rs.length : Int)) (chk (((0 : Int) ≤
    if (300 : Int) < (↑((rs.getD i.toNat []).getD (2 : Nat) AV.gone).toS.size : Int) then (300 : Int)
    else (↑((rs.getD i.toNat []).getD (2 : Nat) AV.gone).toS.size : Int)) ∧
  (if (300 : Int) < (↑((rs.getD i.toNat []).getD (2 : Nat) AV.gone).toS.size : Int) then (300 : Int)
    else (↑((rs.getD i.toNat []).getD (2 : Nat) AV.gone).toS.size : Int)) ≤
    (↑((rs.getD i.toNat []).getD (2 : Nat) AV.gone).toS.size : Int)) (Q (Ex.nrm) ([AV.ptr (0 : Nat) (0 : Nat), AV.ptr (1 : Nat) (0 : Nat), AV.ptr (2 : Nat) (0 : Nat),
  AV.int IntKind.i64 (IntKind.i64.wrap (i + (1 : Int)))]) ([AObj.box
    [AV.int IntKind.i64 k, AV.int IntKind.i64 a, AV.int IntKind.i64 f, AV.int IntKind.i64 t,
      AV.row nl1 [K.int IntKind.i64, K.int IntKind.i64, K.str] rs, AV.row nl2 [K.int IntKind.i64] ds],
  AObj.box
    [AV.int IntKind.i64 z1, AV.int IntKind.i64 z2, AV.int IntKind.i64 z3, AV.int IntKind.i64 z4, AV.nils, AV.nils],
  AObj.box
    [AV.int IntKind.i64 k', AV.int IntKind.i64 a', AV.int IntKind.i64 f', AV.int IntKind.i64 t',
      AV.sl (3 : Nat) (0 : Nat) (1 : Nat), AV.nils],
  AObj.arr (2 : Nat) (66 : Nat) [K.int IntKind.i64, K.int IntKind.i64, K.str]
    [[AV.int IntKind.i64 ((rs.getD i.toNat []).getD (0 : Nat) AV.gone).toI,
        AV.int IntKind.i64 ((rs.getD i.toNat []).getD (1 : Nat) AV.gone).toI,
        AV.str
          (((rs.getD i.toNat []).getD (2 : Nat) AV.gone).toS.extract (0 : Nat)
            (if (300 : Int) < (↑((rs.getD i.toNat []).getD (2 : Nat) AV.gone).toS.size : Int) then (300 : Int)
              else (↑((rs.getD i.toNat []).getD (2 : Nat) AV.gone).toS.size : Int)).toNat)]]]))))
  (Q (Ex.exit (1 : Nat)) ([AV.ptr (0 : Nat) (0 : Nat), AV.ptr (1 : Nat) (0 : Nat), AV.ptr (2 : Nat) (0 : Nat)]) ([AObj.box
    [AV.int IntKind.i64 k, AV.int IntKind.i64 a, AV.int IntKind.i64 f, AV.int IntKind.i64 t,
      AV.row nl1 [K.int IntKind.i64, K.int IntKind.i64, K.str] rs, AV.row nl2 [K.int IntKind.i64] ds],
  AObj.box
    [AV.int IntKind.i64 z1, AV.int IntKind.i64 z2, AV.int IntKind.i64 z3, AV.int IntKind.i64 z4, AV.nils, AV.nils],
  AObj.box
    [AV.int IntKind.i64 k', AV.int IntKind.i64 a', AV.int IntKind.i64 f', AV.int IntKind.i64 t', AV.nils, AV.nils]])))
 (Q (Ex.exit (1 : Nat)) ([AV.ptr (0 : Nat) (0 : Nat), AV.ptr (1 : Nat) (0 : Nat), AV.ptr (2 : Nat) (0 : Nat)]) ([AObj.box
    [AV.int IntKind.i64 k, AV.int IntKind.i64 a, AV.int IntKind.i64 f, AV.int IntKind.i64 t,
      AV.row nl1 [K.int IntKind.i64, K.int IntKind.i64, K.str] rs, AV.row nl2 [K.int IntKind.i64] ds],
  AObj.box
    [AV.int IntKind.i64 z1, AV.int IntKind.i64 z2, AV.int IntKind.i64 z3, AV.int IntKind.i64 z4, AV.nils, AV.nils],
  AObj.box
    [AV.int IntKind.i64 k', AV.int IntKind.i64 a', AV.int IntKind.i64 f', AV.int IntKind.i64 t', AV.nils, AV.nils]]))) := by kernel_rfl
theorem nfFMakeb (i k a f t k' a' f' t' z1 z2 z3 z4 : Int) (nl1 nl2 : Bool) (rs ds rows : List (List AV)) (m : Nat) (Q : Ex → List AV → List AObj → Prop) : lpBody Tryz.prog H0 S7 6 6 29 9 [.ptr 0 0, .ptr 1 0, .ptr 2 0, .int .i64 i] [.box [.int .i64 k, .int .i64 a, .int .i64 f, .int .i64 t, .row nl1 [.int .i64, .int .i64, .str] rs, .row nl2 [.int .i64] ds], .box [.int .i64 z1, .int .i64 z2, .int .i64 z3, .int .i64 z4, .nils, .nils], .box [.int .i64 k', .int .i64 a', .int .i64 f', .int .i64 t', .sl 3 0 m, .nils], .arr 2 66 [.int .i64, .int .i64, .str] rows] Q = (
br (decide (i < (↑rs.length : Int)))
 (br (decide (i < (10 : Int)))
  (chk ((0 : Int) ≤ i ∧ i < (↑rs.length : Int)) (chk (((0 : Int) ≤
    if (300 : Int) < (↑((rs.getD i.toNat []).getD (2 : Nat) AV.gone).toS.size : Int) then (300 : Int)
    else (↑((rs.getD i.toNat []).getD (2 : Nat) AV.gone).toS.size : Int)) ∧
  (if (300 : Int) < (↑((rs.getD i.toNat []).getD (2 : Nat) AV.gone).toS.size : Int) then (300 : Int)
    else (↑((rs.getD i.toNat []).getD (2 : Nat) AV.gone).toS.size : Int)) ≤
    (↑((rs.getD i.toNat []).getD (2 : Nat) AV.gone).toS.size : Int)) (chk (m = rows.length) (chk ((rows.length + (1 : Nat)) * (32 : Nat) ≤ (140737488355328 : Nat)) (chk (rows.length + (1 : Nat) ≤ (9223372036854775807 : Nat)) (Q (Ex.nrm) ([AV.ptr (0 : Nat) (0 : Nat), AV.ptr (1 : Nat) (0 : Nat), AV.ptr (2 : Nat) (0 : Nat),
  AV.int IntKind.i64 (IntKind.i64.wrap (i + (1 : Int)))]) ([AObj.box
    [AV.int IntKind.i64 k, AV.int IntKind.i64 a, AV.int IntKind.i64 f, AV.int IntKind.i64 t,
      AV.row nl1 [K.int IntKind.i64, K.int IntKind.i64, K.str] rs, AV.row nl2 [K.int IntKind.i64] ds],
  AObj.box
    [AV.int IntKind.i64 z1, AV.int IntKind.i64 z2, AV.int IntKind.i64 z3, AV.int IntKind.i64 z4, AV.nils, AV.nils],
  AObj.box
    [AV.int IntKind.i64 k', AV.int IntKind.i64 a', AV.int IntKind.i64 f', AV.int IntKind.i64 t',
      AV.sl (3 : Nat) (0 : Nat) (rows.length + (1 : Nat)), AV.nils],
  AObj.arr (2 : Nat) (66 : Nat) [K.int IntKind.i64, K.int IntKind.i64, K.str]
    (rows ++
      [[AV.int IntKind.i64 ((rs.getD i.toNat []).getD (0 : Nat) AV.gone).toI,
          AV.int IntKind.i64 ((rs.getD i.toNat []).getD (1 : Nat) AV.gone).toI,
          AV.str
            (((rs.getD i.toNat []).getD (2 : Nat) AV.gone).toS.extract (0 : Nat)
              (if (300 : Int) < (↑((rs.getD i.toNat []).getD (2 : Nat) AV.gone).toS.size : Int) then (300 : Int)
                else (↑((rs.getD i.toNat []).getD (2 : Nat) AV.gone).toS.size : Int)).toNat)]])])))))))
  (Q (Ex.exit (1 : Nat)) ([AV.ptr (0 : Nat) (0 : Nat), AV.ptr (1 : Nat) (0 : Nat), AV.ptr (2 : Nat) (0 : Nat)]) ([AObj.box
    [AV.int IntKind.i64 k, AV.int IntKind.i64 a, AV.int IntKind.i64 f, AV.int IntKind.i64 t,
      AV.row nl1 [K.int IntKind.i64, K.int IntKind.i64, K.str] rs, AV.row nl2 [K.int IntKind.i64] ds],
  AObj.box
    [AV.int IntKind.i64 z1, AV.int IntKind.i64 z2, AV.int IntKind.i64 z3, AV.int IntKind.i64 z4, AV.nils, AV.nils],
  AObj.box
    [AV.int IntKind.i64 k', AV.int IntKind.i64 a', AV.int IntKind.i64 f', AV.int IntKind.i64 t',
      AV.sl (3 : Nat) (0 : Nat) m, AV.nils],
  AObj.arr (2 : Nat) (66 : Nat) [K.int IntKind.i64, K.int IntKind.i64, K.str] rows])))
 (Q (Ex.exit (1 : Nat)) ([AV.ptr (0 : Nat) (0 : Nat), AV.ptr (1 : Nat) (0 : Nat), AV.ptr (2 : Nat) (0 : Nat)]) ([AObj.box
    [AV.int IntKind.i64 k, AV.int IntKind.i64 a, AV.int IntKind.i64 f, AV.int IntKind.i64 t,
      AV.row nl1 [K.int IntKind.i64, K.int IntKind.i64, K.str] rs, AV.row nl2 [K.int IntKind.i64] ds],
  AObj.box
    [AV.int IntKind.i64 z1, AV.int IntKind.i64 z2, AV.int IntKind.i64 z3, AV.int IntKind.i64 z4, AV.nils, AV.nils],
  AObj.box
    [AV.int IntKind.i64 k', AV.int IntKind.i64 a', AV.int IntKind.i64 f', AV.int IntKind.i64 t',
      AV.sl (3 : Nat) (0 : Nat) m, AV.nils],
  AObj.arr (2 : Nat) (66 : Nat) [K.int IntKind.i64, K.int IntKind.i64, K.str] rows]))) := by kernel_rfl
theorem nfFMakec (i k a f t k' a' f' t' z1 z2 z3 z4 : Int) (nl1 nl2 : Bool) (rs ds : List (List AV)) (Q : Ex → List AV → List AObj → Prop) : lpBody Tryz.prog H0 S7 6 6 29 15 [.ptr 0 0, .ptr 1 0, .ptr 2 0, .int .i64 i] [.box [.int .i64 k, .int .i64 a, .int .i64 f, .int .i64 t, .row nl1 [.int .i64, .int .i64, .str] rs, .row nl2 [.int .i64] ds], .box [.int .i64 z1, .int .i64 z2, .int .i64 z3, .int .i64 z4, .nils, .nils], .box [.int .i64 k', .int .i64 a', .int .i64 f', .int .i64 t', .nils, .nils]] Q = (
br (decide (i < (↑ds.length : Int)))
 (br (decide (i < (10 : Int)))
  (chk ((0 : Int) ≤ i ∧ i < (↑ds.length : Int)) (Q (Ex.nrm) ([AV.ptr (0 : Nat) (0 : Nat), AV.ptr (1 : Nat) (0 : Nat), AV.ptr (2 : Nat) (0 : Nat),
  AV.int IntKind.i64 (IntKind.i64.wrap (i + (1 : Int)))]) ([AObj.box
    [AV.int IntKind.i64 k, AV.int IntKind.i64 a, AV.int IntKind.i64 f, AV.int IntKind.i64 t,
      AV.row nl1 [K.int IntKind.i64, K.int IntKind.i64, K.str] rs, AV.row nl2 [K.int IntKind.i64] ds],
  AObj.box
    [AV.int IntKind.i64 z1, AV.int IntKind.i64 z2, AV.int IntKind.i64 z3, AV.int IntKind.i64 z4, AV.nils, AV.nils],
  AObj.box
    [AV.int IntKind.i64 k', AV.int IntKind.i64 a', AV.int IntKind.i64 f', AV.int IntKind.i64 t', AV.nils,
      AV.sl (3 : Nat) (0 : Nat) (1 : Nat)],
  AObj.arr (2 : Nat) (3 : Nat) [K.int IntKind.i64]
    [[AV.int IntKind.i64 ((ds.getD i.toNat []).getD (0 : Nat) AV.gone).toI]]])))
  (Q (Ex.exit (3 : Nat)) ([AV.ptr (0 : Nat) (0 : Nat), AV.ptr (1 : Nat) (0 : Nat)]) ([AObj.box
    [AV.int IntKind.i64 z1, AV.int IntKind.i64 z2, AV.int IntKind.i64 z3, AV.int IntKind.i64 z4, AV.nils, AV.nils],
  AObj.box
    [AV.int IntKind.i64 k', AV.int IntKind.i64 a', AV.int IntKind.i64 f', AV.int IntKind.i64 t', AV.nils, AV.nils]])))
 (Q (Ex.exit (3 : Nat)) ([AV.ptr (0 : Nat) (0 : Nat), AV.ptr (1 : Nat) (0 : Nat)]) ([AObj.box
    [AV.int IntKind.i64 z1, AV.int IntKind.i64 z2, AV.int IntKind.i64 z3, AV.int IntKind.i64 z4, AV.nils, AV.nils],
  AObj.box
    [AV.int IntKind.i64 k', AV.int IntKind.i64 a', AV.int IntKind.i64 f', AV.int IntKind.i64 t', AV.nils, AV.nils]]))) := by kernel_rfl
theorem nfFMaked (i k a f t k' a' f' t' z1 z2 z3 z4 : Int) (nl1 nl2 : Bool) (rs ds rows : List (List AV)) (m : Nat) (Q : Ex → List AV → List AObj → Prop) : lpBody Tryz.prog H0 S7 6 6 29 15 [.ptr 0 0, .ptr 1 0, .ptr 2 0, .int .i64 i] [.box [.int .i64 k, .int .i64 a, .int .i64 f, .int .i64 t, .row nl1 [.int .i64, .int .i64, .str] rs, .row nl2 [.int .i64] ds], .box [.int .i64 z1, .int .i64 z2, .int .i64 z3, .int .i64 z4, .nils, .nils], .box [.int .i64 k', .int .i64 a', .int .i64 f', .int .i64 t', .nils, .sl 3 0 m], .arr 2 3 [.int .i64] rows] Q = (
br (decide (i < (↑ds.length : Int)))
 (br (decide (i < (10 : Int)))
  (chk ((0 : Int) ≤ i ∧ i < (↑ds.length : Int)) (chk (m = rows.length) (chk ((rows.length + (1 : Nat)) * (8 : Nat) ≤ (140737488355328 : Nat)) (chk (rows.length + (1 : Nat) ≤ (9223372036854775807 : Nat)) (Q (Ex.nrm) ([AV.ptr (0 : Nat) (0 : Nat), AV.ptr (1 : Nat) (0 : Nat), AV.ptr (2 : Nat) (0 : Nat),
  AV.int IntKind.i64 (IntKind.i64.wrap (i + (1 : Int)))]) ([AObj.box
    [AV.int IntKind.i64 k, AV.int IntKind.i64 a, AV.int IntKind.i64 f, AV.int IntKind.i64 t,
      AV.row nl1 [K.int IntKind.i64, K.int IntKind.i64, K.str] rs, AV.row nl2 [K.int IntKind.i64] ds],
  AObj.box
    [AV.int IntKind.i64 z1, AV.int IntKind.i64 z2, AV.int IntKind.i64 z3, AV.int IntKind.i64 z4, AV.nils, AV.nils],
  AObj.box
    [AV.int IntKind.i64 k', AV.int IntKind.i64 a', AV.int IntKind.i64 f', AV.int IntKind.i64 t', AV.nils,
      AV.sl (3 : Nat) (0 : Nat) (rows.length + (1 : Nat))],
  AObj.arr (2 : Nat) (3 : Nat) [K.int IntKind.i64]
    (rows ++ [[AV.int IntKind.i64 ((ds.getD i.toNat []).getD (0 : Nat) AV.gone).toI]])]))))))
  (Q (Ex.exit (3 : Nat)) ([AV.ptr (0 : Nat) (0 : Nat), AV.ptr (1 : Nat) (0 : Nat)]) ([AObj.box
    [AV.int IntKind.i64 z1, AV.int IntKind.i64 z2, AV.int IntKind.i64 z3, AV.int IntKind.i64 z4, AV.nils, AV.nils],
  AObj.box
    [AV.int IntKind.i64 k', AV.int IntKind.i64 a', AV.int IntKind.i64 f', AV.int IntKind.i64 t', AV.nils,
      AV.sl (2 : Nat) (0 : Nat) m],
  AObj.arr (2 : Nat) (3 : Nat) [K.int IntKind.i64] rows])))
 (Q (Ex.exit (3 : Nat)) ([AV.ptr (0 : Nat) (0 : Nat), AV.ptr (1 : Nat) (0 : Nat)]) ([AObj.box
    [AV.int IntKind.i64 z1, AV.int IntKind.i64 z2, AV.int IntKind.i64 z3, AV.int IntKind.i64 z4, AV.nils, AV.nils],
  AObj.box
    [AV.int IntKind.i64 k', AV.int IntKind.i64 a', AV.int IntKind.i64 f', AV.int IntKind.i64 t', AV.nils,
      AV.sl (2 : Nat) (0 : Nat) m],
  AObj.arr (2 : Nat) (3 : Nat) [K.int IntKind.i64] rows]))) := by kernel_rfl
theorem nfFMakee (i k a f t k' a' f' t' z1 z2 z3 z4 : Int) (nl1 nl2 : Bool) (rs ds rows1 : List (List AV)) (m1 : Nat) (Q : Ex → List AV → List AObj → Prop) : lpBody Tryz.prog H0 S7 6 6 29 15 [.ptr 0 0, .ptr 1 0, .ptr 2 0, .int .i64 i] [.box [.int .i64 k, .int .i64 a, .int .i64 f, .int .i64 t, .row nl1 [.int .i64, .int .i64, .str] rs, .row nl2 [.int .i64] ds], .box [.int .i64 z1, .int .i64 z2, .int .i64 z3, .int .i64 z4, .nils, .nils], .box [.int .i64 k', .int .i64 a', .int .i64 f', .int .i64 t', .sl 3 0 m1, .nils], .arr 2 66 [.int .i64, .int .i64, .str] rows1] Q = (
br (decide (i < (↑ds.length : Int)))
 (br (decide (i < (10 : Int)))
  (chk ((0 : Int) ≤ i ∧ i < (↑ds.length : Int)) (Q (Ex.nrm) ([AV.ptr (0 : Nat) (0 : Nat), AV.ptr (1 : Nat) (0 : Nat), AV.ptr (2 : Nat) (0 : Nat),
  AV.int IntKind.i64 (IntKind.i64.wrap (i + (1 : Int)))]) ([AObj.box
    [AV.int IntKind.i64 k, AV.int IntKind.i64 a, AV.int IntKind.i64 f, AV.int IntKind.i64 t,
      AV.row nl1 [K.int IntKind.i64, K.int IntKind.i64, K.str] rs, AV.row nl2 [K.int IntKind.i64] ds],
  AObj.box
    [AV.int IntKind.i64 z1, AV.int IntKind.i64 z2, AV.int IntKind.i64 z3, AV.int IntKind.i64 z4, AV.nils, AV.nils],
  AObj.box
    [AV.int IntKind.i64 k', AV.int IntKind.i64 a', AV.int IntKind.i64 f', AV.int IntKind.i64 t',
      AV.sl (3 : Nat) (0 : Nat) m1, AV.sl (4 : Nat) (0 : Nat) (1 : Nat)],
  AObj.arr (2 : Nat) (66 : Nat) [K.int IntKind.i64, K.int IntKind.i64, K.str] rows1,
  AObj.arr (2 : Nat) (3 : Nat) [K.int IntKind.i64]
    [[AV.int IntKind.i64 ((ds.getD i.toNat []).getD (0 : Nat) AV.gone).toI]]])))
  (Q (Ex.exit (3 : Nat)) ([AV.ptr (0 : Nat) (0 : Nat), AV.ptr (1 : Nat) (0 : Nat)]) ([AObj.box
    [AV.int IntKind.i64 z1, AV.int IntKind.i64 z2, AV.int IntKind.i64 z3, AV.int IntKind.i64 z4, AV.nils, AV.nils],
  AObj.box
    [AV.int IntKind.i64 k', AV.int IntKind.i64 a', AV.int IntKind.i64 f', AV.int IntKind.i64 t',
      AV.sl (2 : Nat) (0 : Nat) m1, AV.nils],
  AObj.arr (2 : Nat) (66 : Nat) [K.int IntKind.i64, K.int IntKind.i64, K.str] rows1])))
 (Q (Ex.exit (3 : Nat)) ([AV.ptr (0 : Nat) (0 : Nat), AV.ptr (1 : Nat) (0 : Nat)]) ([AObj.box
    [AV.int IntKind.i64 z1, AV.int IntKind.i64 z2, AV.int IntKind.i64 z3, AV.int IntKind.i64 z4, AV.nils, AV.nils],
  AObj.box
    [AV.int IntKind.i64 k', AV.int IntKind.i64 a', AV.int IntKind.i64 f', AV.int IntKind.i64 t',
      AV.sl (2 : Nat) (0 : Nat) m1, AV.nils],
  AObj.arr (2 : Nat) (66 : Nat) [K.int IntKind.i64, K.int IntKind.i64, K.str] rows1]))) := by kernel_rfl
theorem nfFMakef (i k a f t k' a' f' t' z1 z2 z3 z4 : Int) (nl1 nl2 : Bool) (rs ds rows rows1 : List (List AV)) (m m1 : Nat) (Q : Ex → List AV → List AObj → Prop) : lpBody Tryz.prog H0 S7 6 6 29 15 [.ptr 0 0, .ptr 1 0, .ptr 2 0, .int .i64 i] [.box [.int .i64 k, .int .i64 a, .int .i64 f, .int .i64 t, .row nl1 [.int .i64, .int .i64, .str] rs, .row nl2 [.int .i64] ds], .box [.int .i64 z1, .int .i64 z2, .int .i64 z3, .int .i64 z4, .nils, .nils], .box [.int .i64 k', .int .i64 a', .int .i64 f', .int .i64 t', .sl 3 0 m1, .sl 4 0 m], .arr 2 66 [.int .i64, .int .i64, .str] rows1, .arr 2 3 [.int .i64] rows] Q = (
br (decide (i < (↑ds.length : Int)))
 (br (decide (i < (10 : Int)))
  (chk ((0 : Int) ≤ i ∧ i < (↑ds.length : Int)) (chk (m = rows.length) (chk ((rows.length + (1 : Nat)) * (8 : Nat) ≤ (140737488355328 : Nat)) (chk (rows.length + (1 : Nat) ≤ (9223372036854775807 : Nat)) (Q (Ex.nrm) ([AV.ptr (0 : Nat) (0 : Nat), AV.ptr (1 : Nat) (0 : Nat), AV.ptr (2 : Nat) (0 : Nat),
  AV.int IntKind.i64 (IntKind.i64.wrap (i + (1 : Int)))]) ([AObj.box
    [AV.int IntKind.i64 k, AV.int IntKind.i64 a, AV.int IntKind.i64 f, AV.int IntKind.i64 t,
      AV.row nl1 [K.int IntKind.i64, K.int IntKind.i64, K.str] rs, AV.row nl2 [K.int IntKind.i64] ds],
  AObj.box
    [AV.int IntKind.i64 z1, AV.int IntKind.i64 z2, AV.int IntKind.i64 z3, AV.int IntKind.i64 z4, AV.nils, AV.nils],
  AObj.box
    [AV.int IntKind.i64 k', AV.int IntKind.i64 a', AV.int IntKind.i64 f', AV.int IntKind.i64 t',
      AV.sl (3 : Nat) (0 : Nat) m1, AV.sl (4 : Nat) (0 : Nat) (rows.length + (1 : Nat))],
  AObj.arr (2 : Nat) (66 : Nat) [K.int IntKind.i64, K.int IntKind.i64, K.str] rows1,
  AObj.arr (2 : Nat) (3 : Nat) [K.int IntKind.i64]
    (rows ++ [[AV.int IntKind.i64 ((ds.getD i.toNat []).getD (0 : Nat) AV.gone).toI]])]))))))
  (Q (Ex.exit (3 : Nat)) ([AV.ptr (0 : Nat) (0 : Nat), AV.ptr (1 : Nat) (0 : Nat)]) ([AObj.box
    [AV.int IntKind.i64 z1, AV.int IntKind.i64 z2, AV.int IntKind.i64 z3, AV.int IntKind.i64 z4, AV.nils, AV.nils],
  AObj.box
    [AV.int IntKind.i64 k', AV.int IntKind.i64 a', AV.int IntKind.i64 f', AV.int IntKind.i64 t',
      AV.sl (2 : Nat) (0 : Nat) m1, AV.sl (3 : Nat) (0 : Nat) m],
  AObj.arr (2 : Nat) (66 : Nat) [K.int IntKind.i64, K.int IntKind.i64, K.str] rows1,
  AObj.arr (2 : Nat) (3 : Nat) [K.int IntKind.i64] rows])))
 (Q (Ex.exit (3 : Nat)) ([AV.ptr (0 : Nat) (0 : Nat), AV.ptr (1 : Nat) (0 : Nat)]) ([AObj.box
    [AV.int IntKind.i64 z1, AV.int IntKind.i64 z2, AV.int IntKind.i64 z3, AV.int IntKind.i64 z4, AV.nils, AV.nils],
  AObj.box
    [AV.int IntKind.i64 k', AV.int IntKind.i64 a', AV.int IntKind.i64 f', AV.int IntKind.i64 t',
      AV.sl (2 : Nat) (0 : Nat) m1, AV.sl (3 : Nat) (0 : Nat) m],
  AObj.arr (2 : Nat) (66 : Nat) [K.int IntKind.i64, K.int IntKind.i64, K.str] rows1,
  AObj.arr (2 : Nat) (3 : Nat) [K.int IntKind.i64] rows]))) := by kernel_rfl
end Go.Proofs.YtiemjcchlfbglaaGreatE
/- What the laws of fault make: the specs hold. -/
namespace Go.Proofs.YtiemjcchlfbglaaGreatE
open Go
set_option linter.unusedVariables false
set_option linter.unusedSimpArgs false
set_option maxRecDepth 100000

theorem take_succ {rs : List (List AV)} {p : List AV → Prop} {i : Nat} (hi : i < rs.length) (h : ∀ r ∈ rs.take i, p r) (hp : p (rs.getD i [])) : ∀ r ∈ rs.take (i + 1), p r := by
  intro r hr
  rw [List.take_succ_eq_append_getElem hi, List.mem_append] at hr
  rcases hr with hr | hr
  · exact h r hr
  · rw [List.mem_singleton] at hr
    rw [List.getD_eq_getElem?_getD, List.getElem?_eq_getElem hi] at hp
    rw [hr]; exact hp
theorem okLFew : OkLp Tryz.prog H0 8 2 lFew := by
  refine okLp_of (U := 6) (k := 6) okS7 lFew (fun vals h => match vals, h with | [_, .int _ i], [.box [_, _, _, _, .row _ _ rs, _]] => ((rs.length : Int) - i).toNat | _, _ => 0) fun vals h Q hl => ?_
  unfold lFew at hl
  split at hl
  · rename_i i k a f t nl rs nl2 ds
    obtain ⟨⟨h0, h1, h2, h3⟩, hq1, hq2⟩ := hyp_iff.1 hl
    refine to (nfFewa ..) ?_
    refine br_intro (fun hc => chk_iff.2 ⟨⟨h0, of_decide_eq_true hc⟩, br_intro (fun hb => hq2) fun hb => ?_⟩) fun hc => ?_
    · have hc := of_decide_eq_true hc
      rw [wr (x := i + 1) (by omega) (by omega)]
      refine ⟨by show ((rs.length : Int) - (i + 1)).toNat < ((rs.length : Int) - i).toNat; omega, hyp_iff.2 ⟨⟨by omega, by omega, h2, ?_⟩, hq1, hq2⟩⟩
      rw [show (i + 1).toNat = i.toNat + 1 by omega]
      refine take_succ (by omega) h3 ?_
      have hb : ¬ (((actText (rs.getD i.toNat [])).size : Nat) : Int) > 1200 := of_decide_eq_false hb
      omega
    · have hc := of_decide_eq_false hc
      refine hq1 fun r hr => h3 r ?_
      rw [List.take_of_length_le (by omega)]; exact hr
  · exact hl.elim
abbrev muI (n : Int) : List AV → List AObj → Nat := fun vals _ => match vals with | [_, _, _, .int _ i] => (n - i).toNat | _ => 0
theorem okLActs : OkLp Tryz.prog H0 29 9 lActs := by
  refine okLp_of (U := 6) (k := 6) okS7 lActs (muI 10) fun vals h Q hl => ?_
  unfold lActs at hl
  split at hl
  · rename_i i k a f t nl1 rs nl2 ds z1 z2 z3 z4 k' a' f' t'
    obtain ⟨h0, hq1, hq2⟩ := hyp_iff.1 hl
    subst h0
    refine to (nfFMakea ..) ?_
    refine br_intro (fun hc => br_intro (fun hc2 => chk_iff.2 ⟨⟨by omega, of_decide_eq_true hc⟩, chk_iff.2 ⟨by constructor <;> split <;> omega, ?_⟩⟩) fun hc2 => absurd hc2 (by simp)) fun hc => hq1
    refine ⟨by show (10 - 1 : Int).toNat < (10 - 0 : Int).toNat; decide, ⟨rfl, by omega, rfl, fun r hr => ?_⟩, hq2⟩
    rw [List.mem_singleton.1 hr]
    refine ⟨_, _, _, rfl, ?_⟩
    rw [ByteArray.size_extract]; split <;> omega
  · rename_i i k a f t nl1 rs nl2 ds z1 z2 z3 z4 k' a' f' t' m rows
    obtain ⟨⟨h0, hm, hl, hr⟩, hq2⟩ := hl
    subst h0
    refine to (nfFMakeb ..) ?_
    have fin := hq2 rows (by omega) hr
    rw [hl] at fin
    refine br_intro (fun hc => br_intro (fun hc2 => chk_iff.2 ⟨⟨by omega, of_decide_eq_true hc⟩, chk_iff.2 ⟨by constructor <;> split <;> omega, ?_⟩⟩) fun hc2 => fin) fun hc => fin
    have hc2 := of_decide_eq_true hc2
    refine chk_iff.2 ⟨hl.symm, chk_iff.2 ⟨by omega, chk_iff.2 ⟨by omega, ?_⟩⟩⟩
    rw [wr (x := (m : Int) + 1) (by omega) (by omega), hl]
    refine ⟨by show (10 - ((m : Int) + 1)).toNat < (10 - (m : Int)).toNat; omega, ⟨by omega, by omega, by rw [List.length_append, hl]; rfl, fun r hr' => ?_⟩, hq2⟩
    rcases List.mem_append.1 hr' with hr' | hr'
    · exact hr r hr'
    · rw [List.mem_singleton.1 hr']
      refine ⟨_, _, _, rfl, ?_⟩
      rw [ByteArray.size_extract]; split <;> omega
  · exact hl.elim
theorem okLDevs : OkLp Tryz.prog H0 29 15 lDevs := by
  refine okLp_of (U := 6) (k := 6) okS7 lDevs (muI 10) fun vals h Q hl => ?_
  unfold lDevs at hl
  split at hl
  case h_2 => exact hl.elim
  rename_i i k a f t nl1 rs nl2 ds z1 z2 z3 z4 k' a' f' t' A D rest
  unfold lDv at hl
  split at hl
  · obtain ⟨h0, hq1, hq2⟩ := hyp_iff.1 hl
    subst h0
    refine to (nfFMakec ..) ?_
    refine br_intro (fun hc => br_intro (fun hc2 => chk_iff.2 ⟨⟨by omega, of_decide_eq_true hc⟩, ?_⟩) fun hc2 => absurd hc2 (by simp)) fun hc => hq1
    exact ⟨by show (10 - 1 : Int).toNat < (10 - 0 : Int).toNat; decide, ⟨rfl, by omega, [_], rfl, rfl⟩, hq2⟩
  · rename_i m rows
    obtain ⟨⟨h0, hm, zs, rfl, hl⟩, hq2⟩ := hl
    subst h0
    refine to (nfFMaked ..) ?_
    have fin := hq2 zs (by omega)
    rw [hl] at fin
    refine br_intro (fun hc => br_intro (fun hc2 => chk_iff.2 ⟨⟨by omega, of_decide_eq_true hc⟩, ?_⟩) fun hc2 => fin) fun hc => fin
    have hc2 := of_decide_eq_true hc2
    rw [irow_len]
    refine chk_iff.2 ⟨hl.symm, chk_iff.2 ⟨by omega, chk_iff.2 ⟨by omega, ?_⟩⟩⟩
    rw [wr (x := (m : Int) + 1) (by omega) (by omega), hl]
    exact ⟨by show (10 - ((m : Int) + 1)).toNat < (10 - (m : Int)).toNat; omega, ⟨by omega, by omega, zs ++ [_], by rw [irow_app]; rfl, by simp [hl]⟩, hq2⟩
  · rename_i m1 rows1
    obtain ⟨h0, hq1, hq2⟩ := hyp_iff.1 hl
    subst h0
    refine to (nfFMakee ..) ?_
    refine br_intro (fun hc => br_intro (fun hc2 => chk_iff.2 ⟨⟨by omega, of_decide_eq_true hc⟩, ?_⟩) fun hc2 => absurd hc2 (by simp)) fun hc => hq1
    exact ⟨by show (10 - 1 : Int).toNat < (10 - 0 : Int).toNat; decide, ⟨rfl, by omega, [_], rfl, rfl⟩, hq2⟩
  · rename_i m1 m rows1 rows
    obtain ⟨⟨h0, hm, zs, rfl, hl⟩, hq2⟩ := hl
    subst h0
    refine to (nfFMakef ..) ?_
    have fin := hq2 zs (by omega)
    rw [hl] at fin
    refine br_intro (fun hc => br_intro (fun hc2 => chk_iff.2 ⟨⟨by omega, of_decide_eq_true hc⟩, ?_⟩) fun hc2 => fin) fun hc => fin
    have hc2 := of_decide_eq_true hc2
    rw [irow_len]
    refine chk_iff.2 ⟨hl.symm, chk_iff.2 ⟨by omega, chk_iff.2 ⟨by omega, ?_⟩⟩⟩
    rw [wr (x := (m : Int) + 1) (by omega) (by omega), hl]
    exact ⟨by show (10 - ((m : Int) + 1)).toNat < (10 - (m : Int)).toNat; omega, ⟨by omega, by omega, zs ++ [_], by rw [irow_app]; rfl, by simp [hl]⟩, hq2⟩
  · exact hl.elim
theorem okS8 : OkSp Tryz.prog H0 S8 := ⟨okS7.fn, okLFew, okLActs, okLDevs, trivial⟩
theorem okFew : OkS Tryz.prog H0 8 sFew := by
  intro args h Q hq
  unfold sFew at hq
  split at hq
  · obtain ⟨h0, hQ⟩ := hyp_iff.1 hq
    refine in_ok (S := S8) (U := 6) (k := 6) okS8 (to (nfFew ..) (hyp_iff.2 ⟨⟨by omega, by omega, h0, fun r hr => by simp at hr⟩, fun hall => br_intro (fun hc => hQ _ fun hb => ?_) fun hc => hQ false (by simp), hQ false (by simp)⟩))
    have hc := of_decide_eq_true hc
    have hb := of_decide_eq_true hb
    exact ⟨by omega, by omega, hall⟩
  · exact hq.elim
theorem okFMake : OkS Tryz.prog H0 29 s6Make := by
  intro args h Q hq
  unfold s6Make at hq
  split at hq
  · rename_i n pi e g fi nl rs k a f t nl1 acts nl2 ds
    obtain ⟨h0, hQ⟩ := hyp_iff.1 hq
    refine in_ok (S := S8) (U := 6) (k := 6) okS8 (to (nfFMake ..) ?_)
    have r1 := rem_lt k (show (0 : Int) < 3 by omega)
    have r2 := rem_lt f (show (0 : Int) < 60 by omega)
    have r3 := rem_lt t (show (0 : Int) < 60 by omega)
    have r4 := rem_lt a (show (0 : Int) < n by omega)
    have r5 := rem_lt a (show (0 : Int) < 2 * n by omega)
    rw [wr (x := 2 * n) (by omega) (by omega), wr (x := s_rem f 60 + s_rem t 60) (by omega) (by omega)]
    have take : ∀ ps : List Int, List.take ps.length (List.drop 0 (List.map (fun n => [AV.int IntKind.i64 n]) ps)) = irow .i64 ps := fun ps => by
      rw [List.drop_zero, List.take_of_length_le (by simp)]; rfl
    have take2 : ∀ l : List (List AV), List.take l.length (List.drop 0 l) = l := fun l => by rw [List.drop_zero, List.take_length]
    have take3 : ∀ ps : List Int, 0 + ps.length ≤ (List.map (fun n => [AV.int IntKind.i64 n]) ps).length := fun ps => by simp
    have take4 : ∀ l : List (List AV), 0 + l.length ≤ l.length := fun l => by omega
    -- the four ends, whatever the place is
    have fin : ∀ (kk aa : Int), 0 ≤ kk → kk ≤ 2 → (kk = 0 → aa = 0) → (kk = 1 → 0 ≤ aa ∧ aa < n) → (kk = 2 → 0 ≤ aa ∧ aa < 2 * n) →
        ((Q (.agg [.int .i64 kk, .int .i64 aa, .int .i64 (s_rem f 60), .int .i64 (s_rem f 60 + s_rem t 60), .row true [.int .i64, .int .i64, .str] [], .row true [.int .i64] []], [])) ∧
        (∀ zs : List Int, zs.length ≤ 10 → Q (.agg [.int .i64 kk, .int .i64 aa, .int .i64 (s_rem f 60), .int .i64 (s_rem f 60 + s_rem t 60), .row true [.int .i64, .int .i64, .str] [], .row false [.int .i64] (irow .i64 zs)], [])) ∧
        (∀ rows : List (List AV), rows.length ≤ 10 → (∀ r ∈ rows, s_actR r) → Q (.agg [.int .i64 kk, .int .i64 aa, .int .i64 (s_rem f 60), .int .i64 (s_rem f 60 + s_rem t 60), .row false [.int .i64, .int .i64, .str] rows, .row true [.int .i64] []], [])) ∧
        (∀ rows : List (List AV), rows.length ≤ 10 → (∀ r ∈ rows, s_actR r) → ∀ zs : List Int, zs.length ≤ 10 → Q (.agg [.int .i64 kk, .int .i64 aa, .int .i64 (s_rem f 60), .int .i64 (s_rem f 60 + s_rem t 60), .row false [.int .i64, .int .i64, .str] rows, .row false [.int .i64] (irow .i64 zs)], []))) := by
      intro kk aa a1 a2 a3 a4 a5
      refine ⟨hQ _ _ _ _ true true [] [] ?_, fun zs hz => hQ _ _ _ _ true false [] zs ?_, fun rows hr ha => hQ _ _ _ _ false true rows [] ?_, fun rows hr ha zs hz => hQ _ _ _ _ false false rows zs ?_⟩
      all_goals refine ⟨a1, a2, by omega, by omega, by omega, by omega, a3, a4, a5, ?_⟩
      · exact ⟨by simp, fun r hr => by simp at hr, by simp⟩
      · exact ⟨by simp, fun r hr => by simp at hr, hz⟩
      · exact ⟨hr, ha, by simp⟩
      · exact ⟨hr, ha, hz⟩
    refine br_intro (fun c => chk_iff.2 ⟨by omega, ?_⟩) fun c => br_intro (fun c2 => chk_iff.2 ⟨by omega, ?_⟩) fun c2 => ?_
    · have c := beq_iff_eq.1 c
      obtain ⟨e1, e2, e3, e4⟩ := fin (s_rem k 3) (s_rem a n) r1.1 (by omega) (by omega) (fun _ => r4) (by omega)
      refine ⟨.mk rfl, ⟨.mk rfl, e1, fun zs hz => chk_iff.2 ⟨take3 zs, ?_⟩⟩, fun rows hr ha => ⟨.mk rfl, chk_iff.2 ⟨take4 rows, ?_⟩, fun zs hz => chk_iff.2 ⟨take4 rows, chk_iff.2 ⟨take3 zs, ?_⟩⟩⟩⟩
      · rw [take]; exact e2 zs hz
      · rw [take2]; exact e3 rows hr ha
      · rw [take, take2]; exact e4 rows hr ha zs hz
    · have c2 := beq_iff_eq.1 c2
      obtain ⟨e1, e2, e3, e4⟩ := fin (s_rem k 3) (s_rem a (2 * n)) r1.1 (by omega) (by omega) (by omega) (fun _ => r5)
      refine ⟨.mk rfl, ⟨.mk rfl, e1, fun zs hz => chk_iff.2 ⟨take3 zs, ?_⟩⟩, fun rows hr ha => ⟨.mk rfl, chk_iff.2 ⟨take4 rows, ?_⟩, fun zs hz => chk_iff.2 ⟨take4 rows, chk_iff.2 ⟨take3 zs, ?_⟩⟩⟩⟩
      · rw [take]; exact e2 zs hz
      · rw [take2]; exact e3 rows hr ha
      · rw [take, take2]; exact e4 rows hr ha zs hz
    · have c := beq_eq_false_iff_ne.1 c
      have c2 := beq_eq_false_iff_ne.1 c2
      obtain ⟨e1, e2, e3, e4⟩ := fin (s_rem k 3) 0 r1.1 (by omega) (fun _ => rfl) (by omega) (by omega)
      refine ⟨.mk rfl, ⟨.mk rfl, e1, fun zs hz => chk_iff.2 ⟨take3 zs, ?_⟩⟩, fun rows hr ha => ⟨.mk rfl, chk_iff.2 ⟨take4 rows, ?_⟩, fun zs hz => chk_iff.2 ⟨take4 rows, chk_iff.2 ⟨take3 zs, ?_⟩⟩⟩⟩
      · rw [take]; exact e2 zs hz
      · rw [take2]; exact e3 rows hr ha
      · rw [take, take2]; exact e4 rows hr ha zs hz
  · exact hq.elim
theorem okS9 : OkSp Tryz.prog H0 S9 := ⟨⟨okFew, okFMake, okS7.fn⟩, trivial⟩
end Go.Proofs.YtiemjcchlfbglaaGreatE
/- Texts: fronts, what two have in common; the tables of the laws with acts. -/
namespace Go.Proofs.YtiemjcchlfbglaaGreatE
open Go
set_option linter.unusedVariables false
set_option linter.unusedSimpArgs false

def comN : List UInt8 → List UInt8 → Nat
  | a :: l, b :: t => if a = b then comN l t + 1 else 0
  | _, _ => 0
def s_com (a b : ByteArray) : ByteArray := a.extract 0 (comN a.data.toList b.data.toList)
def lCom : LW := fun vals h Q => match vals, h with
  | [.str a, .str b, .int .i64 i], [] => Hyp (0 ≤ i ∧ i ≤ a.size ∧ i ≤ b.size ∧ a.size ≤ 1000000 ∧ comN a.data.toList b.data.toList = i.toNat + comN (a.data.toList.drop i.toNat) (b.data.toList.drop i.toNat)) ∧ ∀ j : Int, j = comN a.data.toList b.data.toList → Q (.exit 0) [.str a, .int .i64 j] []
  | _, _ => False
def sCom : SW := fun args h Q => match args, h with
  | [.str a, .str b], [] => Hyp (a.size ≤ 1000000) ∧ ∀ z, z = s_com a b → Q (.str z, [])
  | _, _ => False
def Y0 : Sp := ⟨(27, sRunG) :: (8, sFew) :: (29, s6Make) :: V4.fn, []⟩
def Y0L : Sp := ⟨Y0.fn, [(54, 2, lCom)]⟩
def Y1 : Sp := ⟨(54, sCom) :: Y0.fn, []⟩
end Go.Proofs.YtiemjcchlfbglaaGreatE
/- What path mode says of functions, printed by a program of this session; the kernel holds each. -/
namespace Go.Proofs.YtiemjcchlfbglaaGreatE
open Go
set_option maxRecDepth 100000
set_option linter.unusedVariables false
theorem nfComa (a b : ByteArray) (i : Int) (Q : Ex → List AV → List AObj → Prop) : lpBody Tryz.prog H0 Y0 6 6 54 2 [.str a, .str b, .int .i64 i] [] Q = (
br (decide (i < (↑a.size : Int)))
 (br (decide (i < (↑b.size : Int)))
  (chk ((0 : Int) ≤ i ∧ i < (↑a.size : Int)) (chk ((0 : Int) ≤ i ∧ i < (↑b.size : Int)) (br ((↑(a.data.toList.getD i.toNat (0 : UInt8)).toNat : Int) == (↑(b.data.toList.getD i.toNat (0 : UInt8)).toNat : Int))
   (Q (Ex.nrm) ([AV.str a, AV.str b, AV.int IntKind.i64 (IntKind.i64.wrap (i + (1 : Int)))]) ([]))
   (Q (Ex.exit (0 : Nat)) ([AV.str a, AV.int IntKind.i64 i]) ([])))))
  (Q (Ex.exit (0 : Nat)) ([AV.str a, AV.int IntKind.i64 i]) ([])))
 (Q (Ex.exit (0 : Nat)) ([AV.str a, AV.int IntKind.i64 i]) ([]))) := by kernel_rfl
theorem nfCom (a b : ByteArray) (Q : AV × List AObj → Prop) : inlW Tryz.prog H0 Y0L 6 (InO Tryz.prog H0 Y0L 6 6) 54 [.str a, .str b] [] Q = (
((Hyp ((0 : Int) ≤ (0 : Int) ∧
  (0 : Int) ≤ (↑a.size : Int) ∧
    (0 : Int) ≤ (↑b.size : Int) ∧
      a.size ≤ (1000000 : Nat) ∧
        comN a.data.toList b.data.toList =
          (0 : Nat) +
            comN (List.drop (Int.toNat (0 : Int)) a.data.toList) (List.drop (Int.toNat (0 : Int)) b.data.toList))) ∧
((∀ (j101 : Int),
((j101 = (↑(comN a.data.toList b.data.toList) : Int)) →
chk ((0 : Int) ≤ j101 ∧ j101 ≤ (↑a.size : Int)) (Q ((AV.str (a.extract (0 : Nat) j101.toNat), [])))))))) := by kernel_rfl
end Go.Proofs.YtiemjcchlfbglaaGreatE
/- Texts: fronts, what two have in common. -/
namespace Go.Proofs.YtiemjcchlfbglaaGreatE
open Go
set_option linter.unusedVariables false
set_option linter.unusedSimpArgs false
set_option maxRecDepth 100000

theorem okY0 : OkSp Tryz.prog H0 Y0 := ⟨⟨okRunG, okFew, okFMake, okV4.fn⟩, trivial⟩
theorem comN_le : ∀ (l t : List UInt8), comN l t ≤ l.length ∧ comN l t ≤ t.length
  | [], _ => ⟨Nat.zero_le _, Nat.zero_le _⟩
  | _ :: _, [] => ⟨Nat.zero_le _, Nat.zero_le _⟩
  | a :: l, b :: t => by
    have := comN_le l t
    simp only [comN, List.length_cons]
    split <;> omega
theorem okLCom : OkLp Tryz.prog H0 54 2 lCom := by
  refine okLp_of (U := 6) (k := 6) okY0 lCom (fun vals _ => match vals with | [.str a, _, .int _ i] => ((a.size : Int) - i).toNat | _ => 0) fun vals h Q hl => ?_
  unfold lCom at hl
  split at hl
  · rename_i a b i
    obtain ⟨⟨h0, h1, h2, h3, h4⟩, hq⟩ := hyp_iff.1 hl
    obtain ⟨k, rfl⟩ : ∃ k : Nat, i = k := ⟨i.toNat, by omega⟩
    rw [Int.toNat_natCast] at h4
    have stop : comN (a.data.toList.drop k) (b.data.toList.drop k) = 0 → Q (.exit 0) [.str a, .int .i64 k] [] := fun hz => hq k (by rw [h4, hz]; rfl)
    have ea : ∀ (x : ByteArray), ¬ k < x.size → x.data.toList.drop k = [] := fun x hx => List.drop_eq_nil_of_le (by show x.data.toList.length ≤ k; rw [Array.length_toList]; exact Nat.le_of_not_lt hx)
    refine to (nfComa ..) (br_intro (fun c => br_intro (fun c2 => ?_) fun c2 => stop ?_) fun c => stop ?_)
    · have c := of_decide_eq_true c
      have c2 := of_decide_eq_true c2
      have hk : k < a.size := by omega
      have hk2 : k < b.size := by omega
      rw [drop_cons hk, drop_cons hk2] at h4 stop
      simp only [comN] at h4 stop
      rw [Int.toNat_natCast, getD_byte hk, getD_byte hk2, chk_iff, chk_iff]
      refine ⟨⟨h0, c⟩, ⟨h0, c2⟩, br_intro (fun c3 => ?_) fun c3 => stop ?_⟩
      · have c3 : a[k] = b[k] := by
          have : ((a[k].toNat : Int)) = b[k].toNat := by simpa using c3
          exact UInt8.toNat_inj.1 (by omega)
        rw [if_pos c3] at h4
        rw [wr (x := (k : Int) + 1) (by omega) (by omega)]
        refine ⟨by show ((a.size : Int) - ((k : Int) + 1)).toNat < ((a.size : Int) - k).toNat; omega, hyp_iff.2 ⟨⟨by omega, by omega, by omega, h3, ?_⟩, hq⟩⟩
        have e : ((k : Int) + 1).toNat = k + 1 := by omega
        rw [e, h4]
        omega
      · have c3 : ¬ a[k] = b[k] := fun hh => by rw [hh] at c3; simp at c3
        rw [if_neg c3]
    · have c2 := of_decide_eq_false c2
      rw [ea b (by omega)]
      cases a.data.toList.drop k <;> rfl
    · have c := of_decide_eq_false c
      rw [ea a (by omega)]
      rfl
  · exact hl.elim
theorem okY0L : OkSp Tryz.prog H0 Y0L := ⟨okY0.fn, okLCom, trivial⟩
theorem okCom : OkS Tryz.prog H0 54 sCom := by
  intro args h Q hq
  unfold sCom at hq
  split at hq
  · rename_i a b
    obtain ⟨h1, hq⟩ := hyp_iff.1 hq
    have hle := comN_le a.data.toList b.data.toList
    refine in_ok (S := Y0L) (U := 6) (k := 6) okY0L (to (nfCom ..) (hyp_iff.2 ⟨⟨by omega, by omega, by omega, h1, by rw [Nat.zero_add]; rfl⟩, fun j hj => ?_⟩))
    rw [chk_iff]
    have hs : a.data.toList.length = a.size := Array.length_toList
    refine ⟨by omega, hq _ ?_⟩
    rw [hj, Int.toNat_natCast]
    rfl
  · exact hq.elim
theorem okY1 : OkSp Tryz.prog H0 Y1 := ⟨⟨okCom, okY0.fn⟩, trivial⟩

/- Texts as lists. -/
abbrev bl (x : ByteArray) : List UInt8 := x.data.toList
theorem bl_inj {x y : ByteArray} (h : bl x = bl y) : x = y := ByteArray.ext (Array.ext' h)
theorem bl_len (x : ByteArray) : (bl x).length = x.size := Array.length_toList
theorem bl_ext (x : ByteArray) (m : Nat) : bl (x.extract 0 m) = (bl x).take m := by
  show (x.extract 0 m).data.toList = _
  simp
theorem bl_clean (x : ByteArray) : bl (s_clean x) = (bl x).take (cleanN (bl x)) := bl_ext x _
theorem bl_out (c : Bool) (d s : ByteArray) : bl (s_out c d s) = (bl d).take (outN c (bl d) (bl s)) := bl_ext d _
theorem bl_com (a b : ByteArray) : bl (s_com a b) = (bl a).take (comN (bl a) (bl b)) := bl_ext a _
/-- A front of another one. -/
def s_front (x y : ByteArray) : Prop := ∃ m, bl x = (bl y).take m
def s_cl (x : ByteArray) : Prop := cleanN (bl x) = (bl x).length
theorem cleanN_take : ∀ (l : List UInt8) (m : Nat), cleanN (l.take m) = min m (cleanN l)
  | [], m => by simp [cleanN]
  | b :: l, 0 => by simp [cleanN]
  | b :: l, m + 1 => by
    have ih := cleanN_take l m
    rw [List.take_succ_cons]
    simp only [cleanN]
    split
    · omega
    · split
      · rw [ih]; omega
      · omega
theorem cleanN_le : ∀ (l : List UInt8), cleanN l ≤ l.length
  | [] => Nat.le_refl _
  | b :: l => by
    have := cleanN_le l
    simp only [cleanN, List.length_cons]
    split
    · omega
    · split <;> omega
theorem cl_iff {x : ByteArray} : s_cl x ↔ s_clean x = x := by
  constructor
  · intro h
    apply bl_inj
    rw [bl_clean, h, List.take_length]
  · intro h
    have := congrArg (fun y => (bl y).length) h
    simp only [bl_clean, List.length_take] at this
    have h2 := cleanN_le (bl x)
    unfold s_cl
    omega
theorem cl_clean (x : ByteArray) : s_cl (s_clean x) := by
  unfold s_cl
  rw [bl_clean, cleanN_take, List.length_take]
  have := cleanN_le (bl x)
  omega
theorem cl_front {x y : ByteArray} (hy : s_cl y) (h : s_front x y) : s_cl x := by
  obtain ⟨m, hm⟩ := h
  unfold s_cl at hy ⊢
  rw [hm, cleanN_take, hy, List.length_take]
theorem cl_nil : s_cl (⟨#[]⟩ : ByteArray) := rfl
theorem front_refl (x : ByteArray) : s_front x x := ⟨(bl x).length, by rw [List.take_length]⟩
theorem front_nil (x : ByteArray) : s_front (⟨#[]⟩ : ByteArray) x := ⟨0, rfl⟩
theorem front_trans {x y z : ByteArray} (h1 : s_front x y) (h2 : s_front y z) : s_front x z := by
  obtain ⟨m, hm⟩ := h1
  obtain ⟨k, hk⟩ := h2
  exact ⟨min m k, by rw [hm, hk, List.take_take]⟩
theorem front_clean (x : ByteArray) : s_front (s_clean x) x := ⟨_, bl_clean x⟩
theorem front_out (c : Bool) (d s : ByteArray) : s_front (s_out c d s) d := ⟨_, bl_out c d s⟩
theorem front_empty {x : ByteArray} (h : s_front x (⟨#[]⟩ : ByteArray)) : x = ⟨#[]⟩ := by
  obtain ⟨m, hm⟩ := h
  apply bl_inj
  rw [hm]
  exact List.take_nil
theorem out_false {d : ByteArray} (hd : s_cl d) (s : ByteArray) : s_out false d s = d := by
  apply bl_inj
  rw [bl_out, outN_false, hd, List.take_length]
theorem outN_com : ∀ (l t : List UInt8), cleanN l = l.length → outN true l t = comN l t
  | [], _, _ => by simp [outN, comN]
  | b :: l, [], h => by simp [outN, comN]
  | b :: l, c :: t, h => by
    simp only [outN, comN, cleanN, List.length_cons, List.head?_cons, List.tail_cons] at *
    by_cases h35 : b = 35
    · rw [if_pos h35] at h
      have hl : l = [] := List.eq_nil_of_length_eq_zero (by omega)
      subst hl
      rw [if_pos (.inr (.inr h35))]
      by_cases hc : b = c
      · rw [if_neg (fun hh => hh.2 (by rw [hc])), if_pos h35, if_pos hc]; simp [comN]
      · rw [if_pos ⟨trivial, fun hh => hc (Option.some.inj hh).symm⟩, if_neg hc]
    · rw [if_neg h35] at h
      by_cases h2 : b = 48 ∨ b = 49
      · rw [if_pos h2] at h
        have ih := outN_com l t (by omega)
        rw [if_pos (h2.elim .inl fun x => .inr (.inl x))]
        by_cases hc : b = c
        · rw [if_neg (fun hh => hh.2 (by rw [hc])), if_neg h35, if_pos hc, ih]
        · rw [if_pos ⟨trivial, fun hh => hc (Option.some.inj hh).symm⟩, if_neg hc]
      · rw [if_neg h2] at h
        omega
theorem out_com {d : ByteArray} (hd : s_cl d) (s : ByteArray) : s_out true d s = s_com d s := by
  apply bl_inj
  rw [bl_out, bl_com, outN_com _ _ hd]
theorem comN_take : ∀ (l : List UInt8) (m : Nat), comN (l.take m) l = min m l.length
  | [], m => by simp [comN]
  | b :: l, 0 => by simp [comN]
  | b :: l, m + 1 => by
    rw [List.take_succ_cons]
    simp only [comN, if_true, List.length_cons]
    rw [comN_take l m]
    omega
theorem com_front {x y : ByteArray} (h : s_front x y) : s_com x y = x := by
  obtain ⟨m, hm⟩ := h
  apply bl_inj
  have : comN (bl x) (bl y) = (bl x).length := by rw [hm, comN_take, List.length_take]
  rw [bl_com, this, List.take_length]
theorem comN_take2 : ∀ (l t : List UInt8), (l.take (comN l t)) = t.take (comN l t)
  | [], _ => by simp [comN]
  | _ :: _, [] => by simp [comN]
  | a :: l, b :: t => by
    simp only [comN]
    split
    · rename_i h
      rw [List.take_succ_cons, List.take_succ_cons, h, comN_take2 l t]
    · simp
theorem front_com1 (x y : ByteArray) : s_front (s_com x y) x := ⟨_, bl_com x y⟩
theorem front_com2 (x y : ByteArray) : s_front (s_com x y) y := ⟨comN (bl x) (bl y), by rw [bl_com, comN_take2]⟩
theorem com_self (x : ByteArray) : s_com x x = x := com_front (front_refl x)
end Go.Proofs.YtiemjcchlfbglaaGreatE
/- A slot that goes round: what is passed on, what is a front of what. -/
namespace Go.Proofs.YtiemjcchlfbglaaGreatE
open Go
set_option linter.unusedVariables false
set_option linter.unusedSimpArgs false
set_option maxRecDepth 100000

section
variable {P : RG} {o : Int} {two : Bool} {a b : ByteArray} {M : Nat} {hit : Int → Int → Bool} {fr to_ ro : Int}
def gEm (P : RG) (hit : Int → Int → Bool) (fr to_ ro : Int) : Prop := ∀ (fm dst : Int) (base : ByteArray), 0 ≤ dst → dst ≤ 1000000 → base.size ≤ 1000000 → s_emitR (hit fm dst) fr to_ ro base (P.em fm dst base)
theorem gC_cl (x : ByteArray) (i j : Nat) : s_cl (gC P o x i j) := cl_clean _
theorem guard_cl {pi st dv : Int} {x : ByteArray} (h : s_cl x) : s_cl (s_guard pi st dv x) := by
  unfold s_guard
  split
  · exact cl_nil
  · exact h
theorem gDir_cl (x : ByteArray) (k : Nat) : s_cl (gDirX P o x k) := by
  unfold gDirX
  split
  · exact guard_cl (gC_cl ..)
  · exact gC_cl ..
theorem gSkip_cl (y : ByteArray) (k : Nat) : s_cl (gSkipX P o two y k) := by
  unfold gSkipX
  split
  · split
    · exact gC_cl ..
    · exact cl_nil
  · exact gC_cl ..
theorem gOut_cl (x y : ByteArray) (k : Nat) : s_cl (gOutX P o two x y k) := by
  unfold gOutX
  split
  · exact cl_nil
  · exact cl_front (gDir_cl x k) (front_out ..)
theorem gO_cl {k : Nat} (hk : 0 < k) : s_cl (gO P o two a b k).1 := by
  obtain ⟨j, rfl⟩ : ∃ j, k = j + 1 := ⟨k - 1, by omega⟩
  exact gOut_cl ..
/-- What goes out, of a node that is on. -/
theorem gOut_com {x y : ByteArray} {k : Nat} (hs : s_int P.sts (gN P o (k + 1)) ≠ 0) (hc : 0 < k ∨ P.n ≤ P.sl) : gOutX P o two x y k = s_com (gDirX P o x k) (gSkipX P o two y k) := by
  unfold gOutX
  rw [if_neg hs]
  have : (decide (0 < k) || decide (P.n ≤ P.sl)) = true := by
    rcases hc with hc | hc
    · rw [decide_eq_true hc]; rfl
    · rw [decide_eq_true hc]; simp
  rw [this, out_com (gDir_cl x k)]
theorem gOut_one {x y : ByteArray} (hs : s_int P.sts (gN P o 1) ≠ 0) (hc : P.sl < P.n) : gOutX P o two x y 0 = gDirX P o x 0 := by
  unfold gOutX
  rw [if_neg hs]
  have : (decide (0 < 0) || decide (P.n ≤ P.sl)) = false := by
    rw [decide_eq_false (show ¬ P.n ≤ P.sl by omega)]; rfl
  rw [this, out_false (gDir_cl x 0)]
theorem gC_size (hok : gOk P o two M) (hE : gEm P hit fr to_ ro) {x : ByteArray} (hx : x.size ≤ 1000000) (i j : Nat) : (gC P o x i j).size ≤ 1000000 := by
  have := g_lt hok j
  have := hok.2.1
  exact Nat.le_trans (clean_le _) (hE _ _ x (by omega) (by omega) hx).1
theorem gDir_size (hok : gOk P o two M) (hE : gEm P hit fr to_ ro) {x : ByteArray} (hx : x.size ≤ 1000000) (k : Nat) : (gDirX P o x k).size ≤ 1000000 := by
  unfold gDirX
  split
  · exact guard_le (gC_size hok hE hx _ _)
  · exact gC_size hok hE hx _ _
theorem gSkip_size (hok : gOk P o two M) (hE : gEm P hit fr to_ ro) {x : ByteArray} (hx : x.size ≤ 1000000) (k : Nat) : (gSkipX P o two x k).size ≤ 1000000 := by
  unfold gSkipX
  split
  · split
    · exact gC_size hok hE hx _ _
    · exact Nat.zero_le _
  · exact gC_size hok hE hx _ _
theorem gO_size (hok : gOk P o two M) (hE : gEm P hit fr to_ ro) (ha : a.size ≤ 1000000) (hb : b.size ≤ 1000000) : ∀ k, (gO P o two a b k).1.size ≤ 1000000 ∧ (gO P o two a b k).2.size ≤ 1000000
  | 0 => ⟨ha, hb⟩
  | k + 1 => by
    have ih := gO_size hok hE ha hb k
    refine ⟨?_, ih.1⟩
    show (gOutX P o two _ _ k).size ≤ _
    unfold gOutX
    split
    · exact Nat.zero_le _
    · exact Nat.le_trans (out_le ..) (gDir_size hok hE ih.1 k)
theorem gC_pass (hok : gOk P o two M) (hE : gEm P hit fr to_ ro) {x : ByteArray} (hx : x.size ≤ 1000000) {i j : Nat} (h : hit (gN P o i) (gN P o j) = false ∨ to_ ≤ ro) : gC P o x i j = s_clean x := by
  have := g_lt hok j
  have := hok.2.1
  unfold gC
  rw [(hE (gN P o i) (gN P o j) x (by omega) (by omega) hx).2.1 h]
theorem gC_silent (hok : gOk P o two M) (hE : gEm P hit fr to_ ro) {x : ByteArray} (hx : x.size ≤ 1000000) {i j : Nat} (h : hit (gN P o i) (gN P o j) = true) (h1 : ro < to_) (h2 : ro < fr) : gC P o x i j = ⟨#[]⟩ := by
  have := g_lt hok j
  have := hok.2.1
  unfold gC
  rw [(hE (gN P o i) (gN P o j) x (by omega) (by omega) hx).2.2 h h1 h2]
  rfl
theorem gN_ne (hok : gOk P o two M) {i j : Nat} (hi : (i : Int) < P.n) (hj : (j : Int) < P.n) (h : i ≠ j) : gN P o i ≠ gN P o j := fun e => by
  have h1 := g_far hok hi
  have h2 := g_far hok hj
  rw [e, h2] at h1
  exact h h1.symm
theorem gN_zero (hok : gOk P o two M) : gN P o 0 = o := node_zero hok.2.2.2.1 hok.2.2.2.2.1
end
theorem clean_of {x : ByteArray} (h : s_cl x) : s_clean x = x := cl_iff.1 h
theorem guard_in {pi st dv : Int} {x : ByteArray} (h : -(2 * pi) ≤ dv ∧ dv ≤ 2 * pi) : s_guard pi st dv x = x := by
  unfold s_guard
  rw [if_neg (fun hh => by omega)]
theorem guard_front (pi st dv : Int) (x : ByteArray) : s_front (s_guard pi st dv x) x := by
  unfold s_guard
  split
  · exact front_nil x
  · exact front_refl x
end Go.Proofs.YtiemjcchlfbglaaGreatE
/- What is made is checked as sound; small facts. -/
namespace Go.Proofs.YtiemjcchlfbglaaGreatE
open Go
set_option linter.unusedVariables false
set_option linter.unusedSimpArgs false
set_option maxRecDepth 100000

theorem intsR (k : IntKind) (ps : List Int) : ints (irow k ps) = ps := by
  induction ps with
  | nil => rfl
  | cons a l ih =>
    have : ints (irow k (a :: l)) = a :: ints (irow k l) := rfl
    rw [this, ih]
theorem cfR_ok {n pi e g fi : Int} {ps : List Int} (h : s_made n pi e g fi ps) : s_confOk n pi e g fi (ints (irow .i64 ps)) = true := by
  obtain ⟨h1, h2, h3, h4, h5, h6, h7, h8, h9, h10, h11, h12⟩ := h
  rw [intsR]
  simp only [s_confOk, Bool.and_eq_true, decide_eq_true_eq, List.all_eq_true]
  exact ⟨⟨⟨⟨⟨⟨⟨⟨⟨⟨⟨h1, h2⟩, h3⟩, by omega⟩, h5⟩, by omega⟩, h7⟩, h8⟩, h9⟩, by omega⟩, h11⟩, h12⟩
theorem madeR {n pi e g fi : Int} {qs : List Int} (hm : s_made n pi e g fi qs) : 4 ≤ pi ∧ pi ≤ 1000 := by
  unfold s_made at hm
  omega
theorem actsR_ok {n k a f t : Int} {acts : List (List AV)} {ds : List Int} (h : s_fok n k a f t acts ds) : s_actsB acts := by
  obtain ⟨_, _, _, _, _, _, _, _, _, h1, h2, _⟩ := h
  refine ⟨by omega, fun r hr => ?_⟩
  obtain ⟨how, m, x, rfl, hx⟩ := h2 r hr
  show x.size ≤ 1000000
  omega
theorem repR_int {m : Nat} {v : Int} {i : Int} (h0 : 0 ≤ i) (h1 : i < m) : s_int (s_rep m v) i = v := by
  unfold s_int s_rep
  rw [rep_get (by omega)]
  rfl
theorem repR_take (m : Nat) (v : Int) : List.take m (List.drop 0 (s_rep m v)) = s_rep m v := by
  rw [List.drop_zero, List.take_of_length_le]
  simp [s_rep]
theorem strR_eq {a b : ByteArray} (h : a = b) : (!(a.toList == b.toList)) = false := by rw [h]; simp
theorem node_of {n o dir : Int} (k : Nat) {x : Int} (h : x = dir * k) : s_rem (o + x) n = s_node n o dir k := by
  rw [h]; rfl
end Go.Proofs.YtiemjcchlfbglaaGreatE
/- A fault of this program, opened. -/
namespace Go.Proofs.YtiemjcchlfbglaaGreatE
open Go Go.WideShapes
set_option linter.unusedVariables false
set_option maxRecDepth 100000

abbrev AAct : List AV → Prop := Parts [AInt .i64, AInt .i64, AStr]
theorem op_act (w : World) : Op Tryz.prog w 66 AAct := op_struct Tryz.underlying66 (by kernel_rfl) ⟨op_int Tryz.underlying3, op_int Tryz.underlying3, op_str Tryz.underlying9, trivial⟩
theorem act_form {r : List AV} (h : AAct r) : ∃ (a b : Int) (s : ByteArray), r = [.int .i64 a, .int .i64 b, .str s] ∧ (s.size : Int) ≤ maxLen := by
  obtain ⟨_, _, rfl, ⟨a, rfl, _⟩, _, _, rfl, ⟨b, rfl, _⟩, _, _, rfl, ⟨s, rfl, h⟩, rfl⟩ := h
  exact ⟨a, b, s, rfl, by omega⟩
theorem act_pure {r : List AV} (h : AAct r) : rowOk [.int .i64, .int .i64, .str] r ∧ pureR [.int .i64, .int .i64, .str] r = true := by
  obtain ⟨a, b, s, rfl, _⟩ := act_form h
  exact ⟨⟨rfl, rfl⟩, rfl⟩
theorem op_acts (w : World) : Op Tryz.prog w 25 (ARow [.int .i64, .int .i64, .str] AAct) := op_slice Tryz.underlying25 (by kernel_rfl) (by decide) (op_act w) fun _ => act_pure
abbrev AFault : List AV → Prop := Parts [AInt .i64, AInt .i64, AInt .i64, AInt .i64, ARow [.int .i64, .int .i64, .str] AAct, ARow [.int .i64] (AInt .i64)]
theorem op_fault (w : World) : Op Tryz.prog w 27 AFault :=
  op_struct Tryz.underlying27 (by kernel_rfl) ⟨op_int Tryz.underlying3, op_int Tryz.underlying3, op_int Tryz.underlying3, op_int Tryz.underlying3, op_acts w, op_ints w, trivial⟩
theorem fault_form {cs : List AV} (h : AFault cs) : ∃ (k a f t : Int) (nl nl2 : Bool) (rs ds : List (List AV)), cs = [.int .i64 k, .int .i64 a, .int .i64 f, .int .i64 t, .row nl [.int .i64, .int .i64, .str] rs, .row nl2 [.int .i64] ds] ∧
    (∀ r ∈ rs, ∃ (a b : Int) (s : ByteArray), r = [.int .i64 a, .int .i64 b, .str s] ∧ (s.size : Int) ≤ maxLen) ∧ rs.length ≤ maxLen ∧ ds.length ≤ maxLen ∧ (∀ r ∈ ds, AInt .i64 r) := by
  obtain ⟨_, _, rfl, ⟨a, rfl, _⟩, _, _, rfl, ⟨b, rfl, _⟩, _, _, rfl, ⟨c, rfl, _⟩, _, _, rfl, ⟨d, rfl, _⟩, _, _, rfl, ⟨nl, rs, rfl, hl, hr⟩, _, _, rfl, ⟨nl2, ds, rfl, hl2, hd⟩, rfl⟩ := h
  exact ⟨a, b, c, d, nl, nl2, rs, ds, rfl, fun r hm => act_form (hr r hm), hl, hl2, hd⟩
end Go.Proofs.YtiemjcchlfbglaaGreatE
