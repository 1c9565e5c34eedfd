/- What path mode says of functions, printed by a program of this session; the kernel holds each. -/
import Derived.Test.YtikmaidjpffakaaF6d
import Derived.KernelRfl
namespace Go.Proofs.YtikmaidjpffakaaE
open Go
set_option maxRecDepth 100000
set_option linter.unusedVariables false
theorem nf20 (n k : Int) (Q : AV × List AObj → Prop) : inlW Try.prog H0 S7 6 (InO Try.prog H0 S7 6 6) 20 [.int .i64 n, .int .i64 k] [] Q = (
br (decide (k < n))
 (chk (n ≠ (0 : Int)) (Q ((AV.tup [AV.int IntKind.i64 k, AV.int IntKind.i64 ((IntKind.i64.wrap (k + (1 : Int))).tmod n)], []))))
 (chk (n ≠ (0 : Int)) (Q ((AV.tup
    [AV.int IntKind.i64 (IntKind.i64.wrap (k - n)),
      AV.int IntKind.i64 ((IntKind.i64.wrap (IntKind.i64.wrap (k - n) + (2 : Int))).tmod n)],
  []))))) := by kernel_rfl
theorem nf12 (k a f t : Int) (nl nl2 : Bool) (rs ds : List (List AV)) (Q : AV × List AObj → Prop) : inlW Try.prog H0 S8 6 (InO Try.prog H0 S8 6 6) 12 [.agg [.int .i64 k, .int .i64 a, .int .i64 f, .int .i64 t, .row nl [.int .i64, .int .i64, .str] rs, .row nl2 [.int .i64] ds]] [] Q = (
((Hyp ((0 : Int) ≤ (0 : Int) ∧
  (0 : Int) ≤ (↑rs.length : Int) ∧
    rs.length ≤ (9223372036854775807 : Nat) ∧
      ∀ (r : List AV), r ∈ List.take (Int.toNat (0 : Int)) rs → (actText r).size ≤ (1200 : Nat))) ∧
(((((∀ (r : List AV), r ∈ rs → (actText r).size ≤ (1200 : Nat)) →
br (decide ((↑rs.length : Int) ≤ (50 : Int)))
 (Q ((AV.bool (decide ((↑ds.length : Int) ≤ (50 : Int))), [])))
 (Q ((AV.bool false, []))))) ∧
(Q ((AV.bool false, []))))))) := by kernel_rfl
theorem nf12a (i k a f t : Int) (nl nl2 : Bool) (rs ds : List (List AV)) (Q : Ex → List AV → List AObj → Prop) : lpBody Try.prog H0 S7 6 6 12 2 [.ptr 0 0, .int .i64 i] [.box [.int .i64 k, .int .i64 a, .int .i64 f, .int .i64 t, .row nl [.int .i64, .int .i64, .str] rs, .row nl2 [.int .i64] ds]] Q = (
br (decide (i < (↑rs.length : Int)))
 (chk ((0 : Int) ≤ i ∧ i < (↑rs.length : Int)) (br (decide ((↑((rs.getD i.toNat []).getD (2 : Nat) AV.gone).toS.size : Int) > (1200 : Int)))
  (Q (Ex.ret) ([AV.bool false]) ([]))
  (Q (Ex.nrm) ([AV.ptr (0 : Nat) (0 : Nat), AV.int IntKind.i64 (IntKind.i64.wrap (i + (1 : Int)))]) ([AObj.box
    [AV.int IntKind.i64 k, AV.int IntKind.i64 a, AV.int IntKind.i64 f, AV.int IntKind.i64 t,
      AV.row nl [K.int IntKind.i64, K.int IntKind.i64, K.str] rs, AV.row nl2 [K.int IntKind.i64] ds]]))))
 (Q (Ex.exit (0 : Nat)) ([AV.ptr (0 : Nat) (0 : Nat)]) ([AObj.box
    [AV.int IntKind.i64 k, AV.int IntKind.i64 a, AV.int IntKind.i64 f, AV.int IntKind.i64 t,
      AV.row nl [K.int IntKind.i64, K.int IntKind.i64, K.str] rs, AV.row nl2 [K.int IntKind.i64] ds]]))) := by kernel_rfl
theorem nf14 (n pi e g fi k a f t : Int) (nl nl1 nl2 : Bool) (rs acts ds : List (List AV)) (Q : AV × List AObj → Prop) : inlW Try.prog H0 S8 6 (InO Try.prog H0 S8 6 6) 14 [cf n pi e g fi nl rs, .agg [.int .i64 k, .int .i64 a, .int .i64 f, .int .i64 t, .row nl1 [.int .i64, .int .i64, .str] acts, .row nl2 [.int .i64] ds]] [] Q = (
br (s_rem k (3 : Int) == (1 : Int))
 (chk ((0 : Int) < n ∧ n < (9223372036854775808 : Int)) (((Hyp ((0 : Int) = (0 : Int))) ∧
 (((((Hyp ((0 : Int) = (0 : Int))) ∧
 (((Q ((AV.agg
    [AV.int IntKind.i64 (s_rem k (3 : Int)), AV.int IntKind.i64 (s_rem a n), AV.int IntKind.i64 (s_rem f (60 : Int)),
      AV.int IntKind.i64 (IntKind.i64.wrap (s_rem f (60 : Int) + s_rem t (60 : Int))),
      AV.row true [K.int IntKind.i64, K.int IntKind.i64, K.str] [], AV.row true [K.int IntKind.i64] []],
  []))) ∧
 ((∀ (zs106 : List Int),
 ((zs106.length ≤ (10 : Nat)) →
 chk ((0 : Nat) + zs106.length ≤ (List.map (fun n => [AV.int IntKind.i64 n]) zs106).length) (Q ((AV.agg
    [AV.int IntKind.i64 (s_rem k (3 : Int)), AV.int IntKind.i64 (s_rem a n), AV.int IntKind.i64 (s_rem f (60 : Int)),
      AV.int IntKind.i64 (IntKind.i64.wrap (s_rem f (60 : Int) + s_rem t (60 : Int))),
      AV.row true [K.int IntKind.i64, K.int IntKind.i64, K.str] [],
      AV.row false [K.int IntKind.i64]
        (List.take zs106.length (List.drop (0 : Nat) (List.map (fun n => [AV.int IntKind.i64 n]) zs106)))],
  [])))))))))) ∧
 ((∀ (rows104 : List (List AV)),
 ((rows104.length ≤ (10 : Nat)) →
 ((∀ (r : List AV), r ∈ rows104 → s_actR r) →
 ((Hyp ((0 : Int) = (0 : Int))) ∧
 (((chk ((0 : Nat) + rows104.length ≤ rows104.length) (Q ((AV.agg
    [AV.int IntKind.i64 (s_rem k (3 : Int)), AV.int IntKind.i64 (s_rem a n), AV.int IntKind.i64 (s_rem f (60 : Int)),
      AV.int IntKind.i64 (IntKind.i64.wrap (s_rem f (60 : Int) + s_rem t (60 : Int))),
      AV.row false [K.int IntKind.i64, K.int IntKind.i64, K.str]
        (List.take rows104.length (List.drop (0 : Nat) rows104)),
      AV.row true [K.int IntKind.i64] []],
  [])))) ∧
 ((∀ (zs109 : List Int),
 ((zs109.length ≤ (10 : Nat)) →
 chk ((0 : Nat) + rows104.length ≤ rows104.length) (chk ((0 : Nat) + zs109.length ≤ (List.map (fun n => [AV.int IntKind.i64 n]) zs109).length) (Q ((AV.agg
    [AV.int IntKind.i64 (s_rem k (3 : Int)), AV.int IntKind.i64 (s_rem a n), AV.int IntKind.i64 (s_rem f (60 : Int)),
      AV.int IntKind.i64 (IntKind.i64.wrap (s_rem f (60 : Int) + s_rem t (60 : Int))),
      AV.row false [K.int IntKind.i64, K.int IntKind.i64, K.str]
        (List.take rows104.length (List.drop (0 : Nat) rows104)),
      AV.row false [K.int IntKind.i64]
        (List.take zs109.length (List.drop (0 : Nat) (List.map (fun n => [AV.int IntKind.i64 n]) zs109)))],
  [])))))))))))))))))))
 (br (s_rem k (3 : Int) == (2 : Int))
  (chk ((0 : Int) < IntKind.i64.wrap ((2 : Int) * n) ∧ IntKind.i64.wrap ((2 : Int) * n) < (9223372036854775808 : Int)) (((Hyp ((0 : Int) = (0 : Int))) ∧
  (((((Hyp ((0 : Int) = (0 : Int))) ∧
  (((Q ((AV.agg
    [AV.int IntKind.i64 (s_rem k (3 : Int)), AV.int IntKind.i64 (s_rem a (IntKind.i64.wrap ((2 : Int) * n))),
      AV.int IntKind.i64 (s_rem f (60 : Int)),
      AV.int IntKind.i64 (IntKind.i64.wrap (s_rem f (60 : Int) + s_rem t (60 : Int))),
      AV.row true [K.int IntKind.i64, K.int IntKind.i64, K.str] [], AV.row true [K.int IntKind.i64] []],
  []))) ∧
  ((∀ (zs107 : List Int),
  ((zs107.length ≤ (10 : Nat)) →
  chk ((0 : Nat) + zs107.length ≤ (List.map (fun n => [AV.int IntKind.i64 n]) zs107).length) (Q ((AV.agg
    [AV.int IntKind.i64 (s_rem k (3 : Int)), AV.int IntKind.i64 (s_rem a (IntKind.i64.wrap ((2 : Int) * n))),
      AV.int IntKind.i64 (s_rem f (60 : Int)),
      AV.int IntKind.i64 (IntKind.i64.wrap (s_rem f (60 : Int) + s_rem t (60 : Int))),
      AV.row true [K.int IntKind.i64, K.int IntKind.i64, K.str] [],
      AV.row false [K.int IntKind.i64]
        (List.take zs107.length (List.drop (0 : Nat) (List.map (fun n => [AV.int IntKind.i64 n]) zs107)))],
  [])))))))))) ∧
  ((∀ (rows105 : List (List AV)),
  ((rows105.length ≤ (10 : Nat)) →
  ((∀ (r : List AV), r ∈ rows105 → s_actR r) →
  ((Hyp ((0 : Int) = (0 : Int))) ∧
  (((chk ((0 : Nat) + rows105.length ≤ rows105.length) (Q ((AV.agg
    [AV.int IntKind.i64 (s_rem k (3 : Int)), AV.int IntKind.i64 (s_rem a (IntKind.i64.wrap ((2 : Int) * n))),
      AV.int IntKind.i64 (s_rem f (60 : Int)),
      AV.int IntKind.i64 (IntKind.i64.wrap (s_rem f (60 : Int) + s_rem t (60 : Int))),
      AV.row false [K.int IntKind.i64, K.int IntKind.i64, K.str]
        (List.take rows105.length (List.drop (0 : Nat) rows105)),
      AV.row true [K.int IntKind.i64] []],
  [])))) ∧
  ((∀ (zs110 : List Int),
  ((zs110.length ≤ (10 : Nat)) →
  chk ((0 : Nat) + rows105.length ≤ rows105.length) (chk ((0 : Nat) + zs110.length ≤ (List.map (fun n => [AV.int IntKind.i64 n]) zs110).length) (Q ((AV.agg
    [AV.int IntKind.i64 (s_rem k (3 : Int)), AV.int IntKind.i64 (s_rem a (IntKind.i64.wrap ((2 : Int) * n))),
      AV.int IntKind.i64 (s_rem f (60 : Int)),
      AV.int IntKind.i64 (IntKind.i64.wrap (s_rem f (60 : Int) + s_rem t (60 : Int))),
      AV.row false [K.int IntKind.i64, K.int IntKind.i64, K.str]
        (List.take rows105.length (List.drop (0 : Nat) rows105)),
      AV.row false [K.int IntKind.i64]
        (List.take zs110.length (List.drop (0 : Nat) (List.map (fun n => [AV.int IntKind.i64 n]) zs110)))],
  [])))))))))))))))))))
  (((Hyp ((0 : Int) = (0 : Int))) ∧
  (((((Hyp ((0 : Int) = (0 : Int))) ∧
  (((Q ((AV.agg
    [AV.int IntKind.i64 (s_rem k (3 : Int)), AV.int IntKind.i64 (0 : Int), AV.int IntKind.i64 (s_rem f (60 : Int)),
      AV.int IntKind.i64 (IntKind.i64.wrap (s_rem f (60 : Int) + s_rem t (60 : Int))),
      AV.row true [K.int IntKind.i64, K.int IntKind.i64, K.str] [], AV.row true [K.int IntKind.i64] []],
  []))) ∧
  ((∀ (zs106 : List Int),
  ((zs106.length ≤ (10 : Nat)) →
  chk ((0 : Nat) + zs106.length ≤ (List.map (fun n => [AV.int IntKind.i64 n]) zs106).length) (Q ((AV.agg
    [AV.int IntKind.i64 (s_rem k (3 : Int)), AV.int IntKind.i64 (0 : Int), AV.int IntKind.i64 (s_rem f (60 : Int)),
      AV.int IntKind.i64 (IntKind.i64.wrap (s_rem f (60 : Int) + s_rem t (60 : Int))),
      AV.row true [K.int IntKind.i64, K.int IntKind.i64, K.str] [],
      AV.row false [K.int IntKind.i64]
        (List.take zs106.length (List.drop (0 : Nat) (List.map (fun n => [AV.int IntKind.i64 n]) zs106)))],
  [])))))))))) ∧
  ((∀ (rows104 : List (List AV)),
  ((rows104.length ≤ (10 : Nat)) →
  ((∀ (r : List AV), r ∈ rows104 → s_actR r) →
  ((Hyp ((0 : Int) = (0 : Int))) ∧
  (((chk ((0 : Nat) + rows104.length ≤ rows104.length) (Q ((AV.agg
    [AV.int IntKind.i64 (s_rem k (3 : Int)), AV.int IntKind.i64 (0 : Int), AV.int IntKind.i64 (s_rem f (60 : Int)),
      AV.int IntKind.i64 (IntKind.i64.wrap (s_rem f (60 : Int) + s_rem t (60 : Int))),
      AV.row false [K.int IntKind.i64, K.int IntKind.i64, K.str]
        (List.take rows104.length (List.drop (0 : Nat) rows104)),
      AV.row true [K.int IntKind.i64] []],
  [])))) ∧
  ((∀ (zs109 : List Int),
  ((zs109.length ≤ (10 : Nat)) →
  chk ((0 : Nat) + rows104.length ≤ rows104.length) (chk ((0 : Nat) + zs109.length ≤ (List.map (fun n => [AV.int IntKind.i64 n]) zs109).length) (Q ((AV.agg
    [AV.int IntKind.i64 (s_rem k (3 : Int)), AV.int IntKind.i64 (0 : Int), AV.int IntKind.i64 (s_rem f (60 : Int)),
      AV.int IntKind.i64 (IntKind.i64.wrap (s_rem f (60 : Int) + s_rem t (60 : Int))),
      AV.row false [K.int IntKind.i64, K.int IntKind.i64, K.str]
        (List.take rows104.length (List.drop (0 : Nat) rows104)),
      AV.row false [K.int IntKind.i64]
        (List.take zs109.length (List.drop (0 : Nat) (List.map (fun n => [AV.int IntKind.i64 n]) zs109)))],
  [])))))))))))))))))))) := by kernel_rfl
theorem nf14a (i k a f t k' a' f' t' z1 z2 z3 z4 : Int) (nl1 nl2 : Bool) (rs ds : List (List AV)) (Q : Ex → List AV → List AObj → Prop) : lpBody Try.prog H0 S7 6 6 14 9 [.ptr 0 0, .ptr 1 0, .ptr 2 0, .int .i64 i] [.box [.int .i64 k, .int .i64 a, .int .i64 f, .int .i64 t, .row nl1 [.int .i64, .int .i64, .str] rs, .row nl2 [.int .i64] ds], .box [.int .i64 z1, .int .i64 z2, .int .i64 z3, .int .i64 z4, .nils, .nils], .box [.int .i64 k', .int .i64 a', .int .i64 f', .int .i64 t', .nils, .nils]] Q = (
br (decide (i < (↑rs.length : Int)))
 (br (decide (i < (10 : Int)))
  (chk ((0 : Int) ≤ i ∧ i < (↑rs.length : Int)) (chk (((0 : Int) ≤
    if (300 : Int) < (↑((rs.getD i.toNat []).getD (2 : Nat) AV.gone).toS.size : Int) then (300 : Int)
    else (↑((rs.getD i.toNat []).getD (2 : Nat) AV.gone).toS.size : Int)) ∧
  (if (300 : Int) < (↑((rs.getD i.toNat []).getD (2 : Nat) AV.gone).toS.size : Int) then (300 : Int)
    else (↑((rs.getD i.toNat []).getD (2 : Nat) AV.gone).toS.size : Int)) ≤
    (↑((rs.getD i.toNat []).getD (2 : Nat) AV.gone).toS.size : Int)) (Q (Ex.nrm) ([AV.ptr (0 : Nat) (0 : Nat), AV.ptr (1 : Nat) (0 : Nat), AV.ptr (2 : Nat) (0 : Nat),
  AV.int IntKind.i64 (IntKind.i64.wrap (i + (1 : Int)))]) ([AObj.box
    [AV.int IntKind.i64 k, AV.int IntKind.i64 a, AV.int IntKind.i64 f, AV.int IntKind.i64 t,
      AV.row nl1 [K.int IntKind.i64, K.int IntKind.i64, K.str] rs, AV.row nl2 [K.int IntKind.i64] ds],
  AObj.box
    [AV.int IntKind.i64 z1, AV.int IntKind.i64 z2, AV.int IntKind.i64 z3, AV.int IntKind.i64 z4, AV.nils, AV.nils],
  AObj.box
    [AV.int IntKind.i64 k', AV.int IntKind.i64 a', AV.int IntKind.i64 f', AV.int IntKind.i64 t',
      AV.sl (3 : Nat) (0 : Nat) (1 : Nat), AV.nils],
  AObj.arr (2 : Nat) (37 : Nat) [K.int IntKind.i64, K.int IntKind.i64, K.str]
    [[AV.int IntKind.i64 ((rs.getD i.toNat []).getD (0 : Nat) AV.gone).toI,
        AV.int IntKind.i64 ((rs.getD i.toNat []).getD (1 : Nat) AV.gone).toI,
        AV.str
          (((rs.getD i.toNat []).getD (2 : Nat) AV.gone).toS.extract (0 : Nat)
            (if (300 : Int) < (↑((rs.getD i.toNat []).getD (2 : Nat) AV.gone).toS.size : Int) then (300 : Int)
              else (↑((rs.getD i.toNat []).getD (2 : Nat) AV.gone).toS.size : Int)).toNat)]]]))))
  (Q (Ex.exit (1 : Nat)) ([AV.ptr (0 : Nat) (0 : Nat), AV.ptr (1 : Nat) (0 : Nat), AV.ptr (2 : Nat) (0 : Nat)]) ([AObj.box
    [AV.int IntKind.i64 k, AV.int IntKind.i64 a, AV.int IntKind.i64 f, AV.int IntKind.i64 t,
      AV.row nl1 [K.int IntKind.i64, K.int IntKind.i64, K.str] rs, AV.row nl2 [K.int IntKind.i64] ds],
  AObj.box
    [AV.int IntKind.i64 z1, AV.int IntKind.i64 z2, AV.int IntKind.i64 z3, AV.int IntKind.i64 z4, AV.nils, AV.nils],
  AObj.box
    [AV.int IntKind.i64 k', AV.int IntKind.i64 a', AV.int IntKind.i64 f', AV.int IntKind.i64 t', AV.nils, AV.nils]])))
 (Q (Ex.exit (1 : Nat)) ([AV.ptr (0 : Nat) (0 : Nat), AV.ptr (1 : Nat) (0 : Nat), AV.ptr (2 : Nat) (0 : Nat)]) ([AObj.box
    [AV.int IntKind.i64 k, AV.int IntKind.i64 a, AV.int IntKind.i64 f, AV.int IntKind.i64 t,
      AV.row nl1 [K.int IntKind.i64, K.int IntKind.i64, K.str] rs, AV.row nl2 [K.int IntKind.i64] ds],
  AObj.box
    [AV.int IntKind.i64 z1, AV.int IntKind.i64 z2, AV.int IntKind.i64 z3, AV.int IntKind.i64 z4, AV.nils, AV.nils],
  AObj.box
    [AV.int IntKind.i64 k', AV.int IntKind.i64 a', AV.int IntKind.i64 f', AV.int IntKind.i64 t', AV.nils, AV.nils]]))) := by kernel_rfl
theorem nf14b (i k a f t k' a' f' t' z1 z2 z3 z4 : Int) (nl1 nl2 : Bool) (rs ds rows : List (List AV)) (m : Nat) (Q : Ex → List AV → List AObj → Prop) : lpBody Try.prog H0 S7 6 6 14 9 [.ptr 0 0, .ptr 1 0, .ptr 2 0, .int .i64 i] [.box [.int .i64 k, .int .i64 a, .int .i64 f, .int .i64 t, .row nl1 [.int .i64, .int .i64, .str] rs, .row nl2 [.int .i64] ds], .box [.int .i64 z1, .int .i64 z2, .int .i64 z3, .int .i64 z4, .nils, .nils], .box [.int .i64 k', .int .i64 a', .int .i64 f', .int .i64 t', .sl 3 0 m, .nils], .arr 2 37 [.int .i64, .int .i64, .str] rows] Q = (
br (decide (i < (↑rs.length : Int)))
 (br (decide (i < (10 : Int)))
  (chk ((0 : Int) ≤ i ∧ i < (↑rs.length : Int)) (chk (((0 : Int) ≤
    if (300 : Int) < (↑((rs.getD i.toNat []).getD (2 : Nat) AV.gone).toS.size : Int) then (300 : Int)
    else (↑((rs.getD i.toNat []).getD (2 : Nat) AV.gone).toS.size : Int)) ∧
  (if (300 : Int) < (↑((rs.getD i.toNat []).getD (2 : Nat) AV.gone).toS.size : Int) then (300 : Int)
    else (↑((rs.getD i.toNat []).getD (2 : Nat) AV.gone).toS.size : Int)) ≤
    (↑((rs.getD i.toNat []).getD (2 : Nat) AV.gone).toS.size : Int)) (chk (m = rows.length) (chk ((rows.length + (1 : Nat)) * (32 : Nat) ≤ (140737488355328 : Nat)) (chk (rows.length + (1 : Nat) ≤ (9223372036854775807 : Nat)) (Q (Ex.nrm) ([AV.ptr (0 : Nat) (0 : Nat), AV.ptr (1 : Nat) (0 : Nat), AV.ptr (2 : Nat) (0 : Nat),
  AV.int IntKind.i64 (IntKind.i64.wrap (i + (1 : Int)))]) ([AObj.box
    [AV.int IntKind.i64 k, AV.int IntKind.i64 a, AV.int IntKind.i64 f, AV.int IntKind.i64 t,
      AV.row nl1 [K.int IntKind.i64, K.int IntKind.i64, K.str] rs, AV.row nl2 [K.int IntKind.i64] ds],
  AObj.box
    [AV.int IntKind.i64 z1, AV.int IntKind.i64 z2, AV.int IntKind.i64 z3, AV.int IntKind.i64 z4, AV.nils, AV.nils],
  AObj.box
    [AV.int IntKind.i64 k', AV.int IntKind.i64 a', AV.int IntKind.i64 f', AV.int IntKind.i64 t',
      AV.sl (3 : Nat) (0 : Nat) (rows.length + (1 : Nat)), AV.nils],
  AObj.arr (2 : Nat) (37 : Nat) [K.int IntKind.i64, K.int IntKind.i64, K.str]
    (rows ++
      [[AV.int IntKind.i64 ((rs.getD i.toNat []).getD (0 : Nat) AV.gone).toI,
          AV.int IntKind.i64 ((rs.getD i.toNat []).getD (1 : Nat) AV.gone).toI,
          AV.str
            (((rs.getD i.toNat []).getD (2 : Nat) AV.gone).toS.extract (0 : Nat)
              (if (300 : Int) < (↑((rs.getD i.toNat []).getD (2 : Nat) AV.gone).toS.size : Int) then (300 : Int)
                else (↑((rs.getD i.toNat []).getD (2 : Nat) AV.gone).toS.size : Int)).toNat)]])])))))))
  (Q (Ex.exit (1 : Nat)) ([AV.ptr (0 : Nat) (0 : Nat), AV.ptr (1 : Nat) (0 : Nat), AV.ptr (2 : Nat) (0 : Nat)]) ([AObj.box
    [AV.int IntKind.i64 k, AV.int IntKind.i64 a, AV.int IntKind.i64 f, AV.int IntKind.i64 t,
      AV.row nl1 [K.int IntKind.i64, K.int IntKind.i64, K.str] rs, AV.row nl2 [K.int IntKind.i64] ds],
  AObj.box
    [AV.int IntKind.i64 z1, AV.int IntKind.i64 z2, AV.int IntKind.i64 z3, AV.int IntKind.i64 z4, AV.nils, AV.nils],
  AObj.box
    [AV.int IntKind.i64 k', AV.int IntKind.i64 a', AV.int IntKind.i64 f', AV.int IntKind.i64 t',
      AV.sl (3 : Nat) (0 : Nat) m, AV.nils],
  AObj.arr (2 : Nat) (37 : Nat) [K.int IntKind.i64, K.int IntKind.i64, K.str] rows])))
 (Q (Ex.exit (1 : Nat)) ([AV.ptr (0 : Nat) (0 : Nat), AV.ptr (1 : Nat) (0 : Nat), AV.ptr (2 : Nat) (0 : Nat)]) ([AObj.box
    [AV.int IntKind.i64 k, AV.int IntKind.i64 a, AV.int IntKind.i64 f, AV.int IntKind.i64 t,
      AV.row nl1 [K.int IntKind.i64, K.int IntKind.i64, K.str] rs, AV.row nl2 [K.int IntKind.i64] ds],
  AObj.box
    [AV.int IntKind.i64 z1, AV.int IntKind.i64 z2, AV.int IntKind.i64 z3, AV.int IntKind.i64 z4, AV.nils, AV.nils],
  AObj.box
    [AV.int IntKind.i64 k', AV.int IntKind.i64 a', AV.int IntKind.i64 f', AV.int IntKind.i64 t',
      AV.sl (3 : Nat) (0 : Nat) m, AV.nils],
  AObj.arr (2 : Nat) (37 : Nat) [K.int IntKind.i64, K.int IntKind.i64, K.str] rows]))) := by kernel_rfl
theorem nf14c (i k a f t k' a' f' t' z1 z2 z3 z4 : Int) (nl1 nl2 : Bool) (rs ds : List (List AV)) (Q : Ex → List AV → List AObj → Prop) : lpBody Try.prog H0 S7 6 6 14 15 [.ptr 0 0, .ptr 1 0, .ptr 2 0, .int .i64 i] [.box [.int .i64 k, .int .i64 a, .int .i64 f, .int .i64 t, .row nl1 [.int .i64, .int .i64, .str] rs, .row nl2 [.int .i64] ds], .box [.int .i64 z1, .int .i64 z2, .int .i64 z3, .int .i64 z4, .nils, .nils], .box [.int .i64 k', .int .i64 a', .int .i64 f', .int .i64 t', .nils, .nils]] Q = (
br (decide (i < (↑ds.length : Int)))
 (br (decide (i < (10 : Int)))
  (chk ((0 : Int) ≤ i ∧ i < (↑ds.length : Int)) (Q (Ex.nrm) ([AV.ptr (0 : Nat) (0 : Nat), AV.ptr (1 : Nat) (0 : Nat), AV.ptr (2 : Nat) (0 : Nat),
  AV.int IntKind.i64 (IntKind.i64.wrap (i + (1 : Int)))]) ([AObj.box
    [AV.int IntKind.i64 k, AV.int IntKind.i64 a, AV.int IntKind.i64 f, AV.int IntKind.i64 t,
      AV.row nl1 [K.int IntKind.i64, K.int IntKind.i64, K.str] rs, AV.row nl2 [K.int IntKind.i64] ds],
  AObj.box
    [AV.int IntKind.i64 z1, AV.int IntKind.i64 z2, AV.int IntKind.i64 z3, AV.int IntKind.i64 z4, AV.nils, AV.nils],
  AObj.box
    [AV.int IntKind.i64 k', AV.int IntKind.i64 a', AV.int IntKind.i64 f', AV.int IntKind.i64 t', AV.nils,
      AV.sl (3 : Nat) (0 : Nat) (1 : Nat)],
  AObj.arr (2 : Nat) (3 : Nat) [K.int IntKind.i64]
    [[AV.int IntKind.i64 ((ds.getD i.toNat []).getD (0 : Nat) AV.gone).toI]]])))
  (Q (Ex.exit (3 : Nat)) ([AV.ptr (0 : Nat) (0 : Nat), AV.ptr (1 : Nat) (0 : Nat)]) ([AObj.box
    [AV.int IntKind.i64 z1, AV.int IntKind.i64 z2, AV.int IntKind.i64 z3, AV.int IntKind.i64 z4, AV.nils, AV.nils],
  AObj.box
    [AV.int IntKind.i64 k', AV.int IntKind.i64 a', AV.int IntKind.i64 f', AV.int IntKind.i64 t', AV.nils, AV.nils]])))
 (Q (Ex.exit (3 : Nat)) ([AV.ptr (0 : Nat) (0 : Nat), AV.ptr (1 : Nat) (0 : Nat)]) ([AObj.box
    [AV.int IntKind.i64 z1, AV.int IntKind.i64 z2, AV.int IntKind.i64 z3, AV.int IntKind.i64 z4, AV.nils, AV.nils],
  AObj.box
    [AV.int IntKind.i64 k', AV.int IntKind.i64 a', AV.int IntKind.i64 f', AV.int IntKind.i64 t', AV.nils, AV.nils]]))) := by kernel_rfl
theorem nf14d (i k a f t k' a' f' t' z1 z2 z3 z4 : Int) (nl1 nl2 : Bool) (rs ds rows : List (List AV)) (m : Nat) (Q : Ex → List AV → List AObj → Prop) : lpBody Try.prog H0 S7 6 6 14 15 [.ptr 0 0, .ptr 1 0, .ptr 2 0, .int .i64 i] [.box [.int .i64 k, .int .i64 a, .int .i64 f, .int .i64 t, .row nl1 [.int .i64, .int .i64, .str] rs, .row nl2 [.int .i64] ds], .box [.int .i64 z1, .int .i64 z2, .int .i64 z3, .int .i64 z4, .nils, .nils], .box [.int .i64 k', .int .i64 a', .int .i64 f', .int .i64 t', .nils, .sl 3 0 m], .arr 2 3 [.int .i64] rows] Q = (
br (decide (i < (↑ds.length : Int)))
 (br (decide (i < (10 : Int)))
  (chk ((0 : Int) ≤ i ∧ i < (↑ds.length : Int)) (chk (m = rows.length) (chk ((rows.length + (1 : Nat)) * (8 : Nat) ≤ (140737488355328 : Nat)) (chk (rows.length + (1 : Nat) ≤ (9223372036854775807 : Nat)) (Q (Ex.nrm) ([AV.ptr (0 : Nat) (0 : Nat), AV.ptr (1 : Nat) (0 : Nat), AV.ptr (2 : Nat) (0 : Nat),
  AV.int IntKind.i64 (IntKind.i64.wrap (i + (1 : Int)))]) ([AObj.box
    [AV.int IntKind.i64 k, AV.int IntKind.i64 a, AV.int IntKind.i64 f, AV.int IntKind.i64 t,
      AV.row nl1 [K.int IntKind.i64, K.int IntKind.i64, K.str] rs, AV.row nl2 [K.int IntKind.i64] ds],
  AObj.box
    [AV.int IntKind.i64 z1, AV.int IntKind.i64 z2, AV.int IntKind.i64 z3, AV.int IntKind.i64 z4, AV.nils, AV.nils],
  AObj.box
    [AV.int IntKind.i64 k', AV.int IntKind.i64 a', AV.int IntKind.i64 f', AV.int IntKind.i64 t', AV.nils,
      AV.sl (3 : Nat) (0 : Nat) (rows.length + (1 : Nat))],
  AObj.arr (2 : Nat) (3 : Nat) [K.int IntKind.i64]
    (rows ++ [[AV.int IntKind.i64 ((ds.getD i.toNat []).getD (0 : Nat) AV.gone).toI]])]))))))
  (Q (Ex.exit (3 : Nat)) ([AV.ptr (0 : Nat) (0 : Nat), AV.ptr (1 : Nat) (0 : Nat)]) ([AObj.box
    [AV.int IntKind.i64 z1, AV.int IntKind.i64 z2, AV.int IntKind.i64 z3, AV.int IntKind.i64 z4, AV.nils, AV.nils],
  AObj.box
    [AV.int IntKind.i64 k', AV.int IntKind.i64 a', AV.int IntKind.i64 f', AV.int IntKind.i64 t', AV.nils,
      AV.sl (2 : Nat) (0 : Nat) m],
  AObj.arr (2 : Nat) (3 : Nat) [K.int IntKind.i64] rows])))
 (Q (Ex.exit (3 : Nat)) ([AV.ptr (0 : Nat) (0 : Nat), AV.ptr (1 : Nat) (0 : Nat)]) ([AObj.box
    [AV.int IntKind.i64 z1, AV.int IntKind.i64 z2, AV.int IntKind.i64 z3, AV.int IntKind.i64 z4, AV.nils, AV.nils],
  AObj.box
    [AV.int IntKind.i64 k', AV.int IntKind.i64 a', AV.int IntKind.i64 f', AV.int IntKind.i64 t', AV.nils,
      AV.sl (2 : Nat) (0 : Nat) m],
  AObj.arr (2 : Nat) (3 : Nat) [K.int IntKind.i64] rows]))) := by kernel_rfl
theorem nf14e (i k a f t k' a' f' t' z1 z2 z3 z4 : Int) (nl1 nl2 : Bool) (rs ds rows1 : List (List AV)) (m1 : Nat) (Q : Ex → List AV → List AObj → Prop) : lpBody Try.prog H0 S7 6 6 14 15 [.ptr 0 0, .ptr 1 0, .ptr 2 0, .int .i64 i] [.box [.int .i64 k, .int .i64 a, .int .i64 f, .int .i64 t, .row nl1 [.int .i64, .int .i64, .str] rs, .row nl2 [.int .i64] ds], .box [.int .i64 z1, .int .i64 z2, .int .i64 z3, .int .i64 z4, .nils, .nils], .box [.int .i64 k', .int .i64 a', .int .i64 f', .int .i64 t', .sl 3 0 m1, .nils], .arr 2 37 [.int .i64, .int .i64, .str] rows1] Q = (
br (decide (i < (↑ds.length : Int)))
 (br (decide (i < (10 : Int)))
  (chk ((0 : Int) ≤ i ∧ i < (↑ds.length : Int)) (Q (Ex.nrm) ([AV.ptr (0 : Nat) (0 : Nat), AV.ptr (1 : Nat) (0 : Nat), AV.ptr (2 : Nat) (0 : Nat),
  AV.int IntKind.i64 (IntKind.i64.wrap (i + (1 : Int)))]) ([AObj.box
    [AV.int IntKind.i64 k, AV.int IntKind.i64 a, AV.int IntKind.i64 f, AV.int IntKind.i64 t,
      AV.row nl1 [K.int IntKind.i64, K.int IntKind.i64, K.str] rs, AV.row nl2 [K.int IntKind.i64] ds],
  AObj.box
    [AV.int IntKind.i64 z1, AV.int IntKind.i64 z2, AV.int IntKind.i64 z3, AV.int IntKind.i64 z4, AV.nils, AV.nils],
  AObj.box
    [AV.int IntKind.i64 k', AV.int IntKind.i64 a', AV.int IntKind.i64 f', AV.int IntKind.i64 t',
      AV.sl (3 : Nat) (0 : Nat) m1, AV.sl (4 : Nat) (0 : Nat) (1 : Nat)],
  AObj.arr (2 : Nat) (37 : Nat) [K.int IntKind.i64, K.int IntKind.i64, K.str] rows1,
  AObj.arr (2 : Nat) (3 : Nat) [K.int IntKind.i64]
    [[AV.int IntKind.i64 ((ds.getD i.toNat []).getD (0 : Nat) AV.gone).toI]]])))
  (Q (Ex.exit (3 : Nat)) ([AV.ptr (0 : Nat) (0 : Nat), AV.ptr (1 : Nat) (0 : Nat)]) ([AObj.box
    [AV.int IntKind.i64 z1, AV.int IntKind.i64 z2, AV.int IntKind.i64 z3, AV.int IntKind.i64 z4, AV.nils, AV.nils],
  AObj.box
    [AV.int IntKind.i64 k', AV.int IntKind.i64 a', AV.int IntKind.i64 f', AV.int IntKind.i64 t',
      AV.sl (2 : Nat) (0 : Nat) m1, AV.nils],
  AObj.arr (2 : Nat) (37 : Nat) [K.int IntKind.i64, K.int IntKind.i64, K.str] rows1])))
 (Q (Ex.exit (3 : Nat)) ([AV.ptr (0 : Nat) (0 : Nat), AV.ptr (1 : Nat) (0 : Nat)]) ([AObj.box
    [AV.int IntKind.i64 z1, AV.int IntKind.i64 z2, AV.int IntKind.i64 z3, AV.int IntKind.i64 z4, AV.nils, AV.nils],
  AObj.box
    [AV.int IntKind.i64 k', AV.int IntKind.i64 a', AV.int IntKind.i64 f', AV.int IntKind.i64 t',
      AV.sl (2 : Nat) (0 : Nat) m1, AV.nils],
  AObj.arr (2 : Nat) (37 : Nat) [K.int IntKind.i64, K.int IntKind.i64, K.str] rows1]))) := by kernel_rfl
theorem nf14f (i k a f t k' a' f' t' z1 z2 z3 z4 : Int) (nl1 nl2 : Bool) (rs ds rows rows1 : List (List AV)) (m m1 : Nat) (Q : Ex → List AV → List AObj → Prop) : lpBody Try.prog H0 S7 6 6 14 15 [.ptr 0 0, .ptr 1 0, .ptr 2 0, .int .i64 i] [.box [.int .i64 k, .int .i64 a, .int .i64 f, .int .i64 t, .row nl1 [.int .i64, .int .i64, .str] rs, .row nl2 [.int .i64] ds], .box [.int .i64 z1, .int .i64 z2, .int .i64 z3, .int .i64 z4, .nils, .nils], .box [.int .i64 k', .int .i64 a', .int .i64 f', .int .i64 t', .sl 3 0 m1, .sl 4 0 m], .arr 2 37 [.int .i64, .int .i64, .str] rows1, .arr 2 3 [.int .i64] rows] Q = (
br (decide (i < (↑ds.length : Int)))
 (br (decide (i < (10 : Int)))
  (chk ((0 : Int) ≤ i ∧ i < (↑ds.length : Int)) (chk (m = rows.length) (chk ((rows.length + (1 : Nat)) * (8 : Nat) ≤ (140737488355328 : Nat)) (chk (rows.length + (1 : Nat) ≤ (9223372036854775807 : Nat)) (Q (Ex.nrm) ([AV.ptr (0 : Nat) (0 : Nat), AV.ptr (1 : Nat) (0 : Nat), AV.ptr (2 : Nat) (0 : Nat),
  AV.int IntKind.i64 (IntKind.i64.wrap (i + (1 : Int)))]) ([AObj.box
    [AV.int IntKind.i64 k, AV.int IntKind.i64 a, AV.int IntKind.i64 f, AV.int IntKind.i64 t,
      AV.row nl1 [K.int IntKind.i64, K.int IntKind.i64, K.str] rs, AV.row nl2 [K.int IntKind.i64] ds],
  AObj.box
    [AV.int IntKind.i64 z1, AV.int IntKind.i64 z2, AV.int IntKind.i64 z3, AV.int IntKind.i64 z4, AV.nils, AV.nils],
  AObj.box
    [AV.int IntKind.i64 k', AV.int IntKind.i64 a', AV.int IntKind.i64 f', AV.int IntKind.i64 t',
      AV.sl (3 : Nat) (0 : Nat) m1, AV.sl (4 : Nat) (0 : Nat) (rows.length + (1 : Nat))],
  AObj.arr (2 : Nat) (37 : Nat) [K.int IntKind.i64, K.int IntKind.i64, K.str] rows1,
  AObj.arr (2 : Nat) (3 : Nat) [K.int IntKind.i64]
    (rows ++ [[AV.int IntKind.i64 ((ds.getD i.toNat []).getD (0 : Nat) AV.gone).toI]])]))))))
  (Q (Ex.exit (3 : Nat)) ([AV.ptr (0 : Nat) (0 : Nat), AV.ptr (1 : Nat) (0 : Nat)]) ([AObj.box
    [AV.int IntKind.i64 z1, AV.int IntKind.i64 z2, AV.int IntKind.i64 z3, AV.int IntKind.i64 z4, AV.nils, AV.nils],
  AObj.box
    [AV.int IntKind.i64 k', AV.int IntKind.i64 a', AV.int IntKind.i64 f', AV.int IntKind.i64 t',
      AV.sl (2 : Nat) (0 : Nat) m1, AV.sl (3 : Nat) (0 : Nat) m],
  AObj.arr (2 : Nat) (37 : Nat) [K.int IntKind.i64, K.int IntKind.i64, K.str] rows1,
  AObj.arr (2 : Nat) (3 : Nat) [K.int IntKind.i64] rows])))
 (Q (Ex.exit (3 : Nat)) ([AV.ptr (0 : Nat) (0 : Nat), AV.ptr (1 : Nat) (0 : Nat)]) ([AObj.box
    [AV.int IntKind.i64 z1, AV.int IntKind.i64 z2, AV.int IntKind.i64 z3, AV.int IntKind.i64 z4, AV.nils, AV.nils],
  AObj.box
    [AV.int IntKind.i64 k', AV.int IntKind.i64 a', AV.int IntKind.i64 f', AV.int IntKind.i64 t',
      AV.sl (2 : Nat) (0 : Nat) m1, AV.sl (3 : Nat) (0 : Nat) m],
  AObj.arr (2 : Nat) (37 : Nat) [K.int IntKind.i64, K.int IntKind.i64, K.str] rows1,
  AObj.arr (2 : Nat) (3 : Nat) [K.int IntKind.i64] rows]))) := by kernel_rfl
theorem nf8 (n pi e g fi : Int) (nl : Bool) (rs : List (List AV)) (li a b ro : Int) (Q : AV × List AObj → Prop) : inlW Try.prog H0 S9 6 (InO Try.prog H0 S9 6 6) 8 [cf n pi e g fi nl rs, .int .i64 li, .int .i64 a, .int .i64 b, .int .i64 ro] [] Q = (
(∀ (n'100 : Int),
(∀ (pi'101 : Int),
(∀ (e'102 : Int),
(∀ (g'103 : Int),
(∀ (fi'104 : Int),
(∀ (nl'105 : Bool),
(∀ (ps106 : List Int),
((s_made n'100 pi'101 e'102 g'103 fi'104 ps106) →
chk ((0 : Int) < IntKind.i64.wrap ((2 : Int) * n'100) ∧ IntKind.i64.wrap ((2 : Int) * n'100) < (9223372036854775808 : Int)) (((Hyp ((0 : Int) < n'100 ∧
  n'100 ≤ (1000 : Int) ∧
    (0 : Int) ≤ s_rem li (IntKind.i64.wrap ((2 : Int) * n'100)) ∧
      s_rem li (IntKind.i64.wrap ((2 : Int) * n'100)) < (2 : Int) * n'100)) ∧
(chk ((0 : Int) < n'100 ∧ n'100 < (9223372036854775808 : Int)) (chk ((0 : Int) < n'100 ∧ n'100 < (9223372036854775808 : Int)) (((Hyp ((6 : Int) ≤ n'100 ∧
  n'100 ≤ (12 : Int) ∧
    (0 : Int) ≤ s_rem a n'100 ∧ s_rem a n'100 < n'100 ∧ (0 : Int) ≤ s_rem b n'100 ∧ s_rem b n'100 < n'100)) ∧
(((Hyp ((0 : Int) < n'100 ∧ n'100 ≤ (1000 : Int))) ∧
(br (s_hit n'100 (2 : Int) (s_rem li (IntKind.i64.wrap ((2 : Int) * n'100)))
  (s_endA n'100 (s_rem li (IntKind.i64.wrap ((2 : Int) * n'100))))
  (s_endB n'100 (s_rem li (IntKind.i64.wrap ((2 : Int) * n'100)))))
 (((Hyp ((0 : Int) < n'100 ∧ n'100 ≤ (1000 : Int))) ∧
 (br (s_hit n'100 (2 : Int) (s_rem li (IntKind.i64.wrap ((2 : Int) * n'100)))
  (s_endB n'100 (s_rem li (IntKind.i64.wrap ((2 : Int) * n'100))))
  (s_endA n'100 (s_rem li (IntKind.i64.wrap ((2 : Int) * n'100)))))
  (((Hyp ((0 : Int) < n'100 ∧ n'100 ≤ (1000 : Int))) ∧
  (br (s_linkB n'100 (s_rem a n'100) (s_rem b n'100))
   (br (s_hit n'100 (2 : Int) (s_rem li (IntKind.i64.wrap ((2 : Int) * n'100))) (s_rem a n'100) (s_rem b n'100) ==
  (s_linkN n'100 (s_rem a n'100) (s_rem b n'100) == s_rem li (IntKind.i64.wrap ((2 : Int) * n'100))))
    (((Hyp (s_confOk n'100 pi'101 e'102 g'103 fi'104
      (List.map (fun r => (r.getD (0 : Nat) AV.gone).toI) (List.map (fun n => [AV.int IntKind.i64 n]) ps106)) =
    true ∧
  (0 : Int) ≤ s_rem ro (999 : Int) ∧
    s_rem ro (999 : Int) ≤ (1000000 : Int) ∧
      (0 : Int) ≤ (0 : Int) ∧
        (0 : Int) ≤ (1000000 : Int) ∧
          (0 : Int) ≤ s_endB n'100 (s_rem li (IntKind.i64.wrap ((2 : Int) * n'100))) ∧
            s_endB n'100 (s_rem li (IntKind.i64.wrap ((2 : Int) * n'100))) ≤ (1000000 : Int) ∧
              (1 : Int) ≤ (2305843009213693952 : Int) ∧
                s_actsOk [[AV.int IntKind.i64 (0 : Int), AV.int IntKind.i64 (0 : Int), AV.str (ByteArray.mk #[])]])) ∧
    (br ((s_emit
      (s_hit n'100 (2 : Int) (s_rem li (IntKind.i64.wrap ((2 : Int) * n'100)))
        (s_endA n'100 (s_rem li (IntKind.i64.wrap ((2 : Int) * n'100))))
        (s_endB n'100 (s_rem li (IntKind.i64.wrap ((2 : Int) * n'100)))))
      (0 : Int) (1000 : Int) [[AV.int IntKind.i64 (0 : Int), AV.int IntKind.i64 (0 : Int), AV.str (ByteArray.mk #[])]]
      (s_rem ro (999 : Int)) (0 : Int) (s_endB n'100 (s_rem li (IntKind.i64.wrap ((2 : Int) * n'100))))
      (ByteArray.mk #[(49 : UInt8)])).toList ==
  (ByteArray.mk #[]).toList)
     (((Hyp (s_confOk n'100 pi'101 e'102 g'103 fi'104
      (List.map (fun r => (r.getD (0 : Nat) AV.gone).toI) (List.map (fun n => [AV.int IntKind.i64 n]) ps106)) =
    true ∧
  (0 : Int) ≤ s_rem ro (999 : Int) ∧
    s_rem ro (999 : Int) ≤ (1000000 : Int) ∧
      (0 : Int) ≤ (0 : Int) ∧
        (0 : Int) ≤ (1000000 : Int) ∧
          (0 : Int) ≤ s_endA n'100 (s_rem li (IntKind.i64.wrap ((2 : Int) * n'100))) ∧
            s_endA n'100 (s_rem li (IntKind.i64.wrap ((2 : Int) * n'100))) ≤ (1000000 : Int) ∧
              (1 : Int) ≤ (2305843009213693952 : Int) ∧
                s_actsOk [[AV.int IntKind.i64 (0 : Int), AV.int IntKind.i64 (0 : Int), AV.str (ByteArray.mk #[])]])) ∧
     (br ((s_emit
      (s_hit n'100 (2 : Int) (s_rem li (IntKind.i64.wrap ((2 : Int) * n'100)))
        (s_endB n'100 (s_rem li (IntKind.i64.wrap ((2 : Int) * n'100))))
        (s_endA n'100 (s_rem li (IntKind.i64.wrap ((2 : Int) * n'100)))))
      (0 : Int) (1000 : Int) [[AV.int IntKind.i64 (0 : Int), AV.int IntKind.i64 (0 : Int), AV.str (ByteArray.mk #[])]]
      (s_rem ro (999 : Int)) (0 : Int) (s_endA n'100 (s_rem li (IntKind.i64.wrap ((2 : Int) * n'100))))
      (ByteArray.mk #[(49 : UInt8)])).toList ==
  (ByteArray.mk #[]).toList)
      (br (s_linkB n'100 (s_rem a n'100) (s_rem b n'100))
       (br (s_linkN n'100 (s_rem a n'100) (s_rem b n'100) == s_rem li (IntKind.i64.wrap ((2 : Int) * n'100)))
        (Q ((AV.bool
    (s_right (2 : Int) (s_rem li (IntKind.i64.wrap ((2 : Int) * n'100))) (1000 : Int) (s_rem ro (999 : Int))
      (s_endA n'100 (s_rem li (IntKind.i64.wrap ((2 : Int) * n'100))))),
  [])))
        (br (!s_linkB n'100 (s_rem a n'100) (s_rem b n'100))
         (Q ((AV.bool
    (s_right (2 : Int) (s_rem li (IntKind.i64.wrap ((2 : Int) * n'100))) (1000 : Int) (s_rem ro (999 : Int))
      (s_endA n'100 (s_rem li (IntKind.i64.wrap ((2 : Int) * n'100))))),
  [])))
         (((Hyp (s_confOk n'100 pi'101 e'102 g'103 fi'104
      (List.map (fun r => (r.getD (0 : Nat) AV.gone).toI) (List.map (fun n => [AV.int IntKind.i64 n]) ps106)) =
    true ∧
  (0 : Int) ≤ s_rem ro (999 : Int) ∧
    s_rem ro (999 : Int) ≤ (1000000 : Int) ∧
      (0 : Int) ≤ (0 : Int) ∧
        (0 : Int) ≤ (1000000 : Int) ∧
          (0 : Int) ≤ s_rem b n'100 ∧
            s_rem b n'100 ≤ (1000000 : Int) ∧
              (1 : Int) ≤ (2305843009213693952 : Int) ∧
                s_actsOk [[AV.int IntKind.i64 (0 : Int), AV.int IntKind.i64 (0 : Int), AV.str (ByteArray.mk #[])]])) ∧
         (br ((s_emit (s_hit n'100 (2 : Int) (s_rem li (IntKind.i64.wrap ((2 : Int) * n'100))) (s_rem a n'100) (s_rem b n'100))
      (0 : Int) (1000 : Int) [[AV.int IntKind.i64 (0 : Int), AV.int IntKind.i64 (0 : Int), AV.str (ByteArray.mk #[])]]
      (s_rem ro (999 : Int)) (0 : Int) (s_rem b n'100) (ByteArray.mk #[(49 : UInt8)])).toList ==
  (ByteArray.mk #[(49 : UInt8)]).toList)
          (Q ((AV.bool
    (s_right (2 : Int) (s_rem li (IntKind.i64.wrap ((2 : Int) * n'100))) (1000 : Int) (s_rem ro (999 : Int))
      (s_endA n'100 (s_rem li (IntKind.i64.wrap ((2 : Int) * n'100))))),
  [])))
          (Q ((AV.bool false, []))))))))
       (br (!s_linkB n'100 (s_rem a n'100) (s_rem b n'100))
        (Q ((AV.bool
    (s_right (2 : Int) (s_rem li (IntKind.i64.wrap ((2 : Int) * n'100))) (1000 : Int) (s_rem ro (999 : Int))
      (s_endA n'100 (s_rem li (IntKind.i64.wrap ((2 : Int) * n'100))))),
  [])))
        (((Hyp (s_confOk n'100 pi'101 e'102 g'103 fi'104
      (List.map (fun r => (r.getD (0 : Nat) AV.gone).toI) (List.map (fun n => [AV.int IntKind.i64 n]) ps106)) =
    true ∧
  (0 : Int) ≤ s_rem ro (999 : Int) ∧
    s_rem ro (999 : Int) ≤ (1000000 : Int) ∧
      (0 : Int) ≤ (0 : Int) ∧
        (0 : Int) ≤ (1000000 : Int) ∧
          (0 : Int) ≤ s_rem b n'100 ∧
            s_rem b n'100 ≤ (1000000 : Int) ∧
              (1 : Int) ≤ (2305843009213693952 : Int) ∧
                s_actsOk [[AV.int IntKind.i64 (0 : Int), AV.int IntKind.i64 (0 : Int), AV.str (ByteArray.mk #[])]])) ∧
        (br ((s_emit (s_hit n'100 (2 : Int) (s_rem li (IntKind.i64.wrap ((2 : Int) * n'100))) (s_rem a n'100) (s_rem b n'100))
      (0 : Int) (1000 : Int) [[AV.int IntKind.i64 (0 : Int), AV.int IntKind.i64 (0 : Int), AV.str (ByteArray.mk #[])]]
      (s_rem ro (999 : Int)) (0 : Int) (s_rem b n'100) (ByteArray.mk #[(49 : UInt8)])).toList ==
  (ByteArray.mk #[(49 : UInt8)]).toList)
         (Q ((AV.bool
    (s_right (2 : Int) (s_rem li (IntKind.i64.wrap ((2 : Int) * n'100))) (1000 : Int) (s_rem ro (999 : Int))
      (s_endA n'100 (s_rem li (IntKind.i64.wrap ((2 : Int) * n'100))))),
  [])))
         (Q ((AV.bool false, []))))))))
      (Q ((AV.bool false, []))))))
     (Q ((AV.bool false, []))))))
    (Q ((AV.bool false, []))))
   (br (s_hit n'100 (2 : Int) (s_rem li (IntKind.i64.wrap ((2 : Int) * n'100))) (s_rem a n'100) (s_rem b n'100) == false)
    (((Hyp (s_confOk n'100 pi'101 e'102 g'103 fi'104
      (List.map (fun r => (r.getD (0 : Nat) AV.gone).toI) (List.map (fun n => [AV.int IntKind.i64 n]) ps106)) =
    true ∧
  (0 : Int) ≤ s_rem ro (999 : Int) ∧
    s_rem ro (999 : Int) ≤ (1000000 : Int) ∧
      (0 : Int) ≤ (0 : Int) ∧
        (0 : Int) ≤ (1000000 : Int) ∧
          (0 : Int) ≤ s_endB n'100 (s_rem li (IntKind.i64.wrap ((2 : Int) * n'100))) ∧
            s_endB n'100 (s_rem li (IntKind.i64.wrap ((2 : Int) * n'100))) ≤ (1000000 : Int) ∧
              (1 : Int) ≤ (2305843009213693952 : Int) ∧
                s_actsOk [[AV.int IntKind.i64 (0 : Int), AV.int IntKind.i64 (0 : Int), AV.str (ByteArray.mk #[])]])) ∧
    (br ((s_emit
      (s_hit n'100 (2 : Int) (s_rem li (IntKind.i64.wrap ((2 : Int) * n'100)))
        (s_endA n'100 (s_rem li (IntKind.i64.wrap ((2 : Int) * n'100))))
        (s_endB n'100 (s_rem li (IntKind.i64.wrap ((2 : Int) * n'100)))))
      (0 : Int) (1000 : Int) [[AV.int IntKind.i64 (0 : Int), AV.int IntKind.i64 (0 : Int), AV.str (ByteArray.mk #[])]]
      (s_rem ro (999 : Int)) (0 : Int) (s_endB n'100 (s_rem li (IntKind.i64.wrap ((2 : Int) * n'100))))
      (ByteArray.mk #[(49 : UInt8)])).toList ==
  (ByteArray.mk #[]).toList)
     (((Hyp (s_confOk n'100 pi'101 e'102 g'103 fi'104
      (List.map (fun r => (r.getD (0 : Nat) AV.gone).toI) (List.map (fun n => [AV.int IntKind.i64 n]) ps106)) =
    true ∧
  (0 : Int) ≤ s_rem ro (999 : Int) ∧
    s_rem ro (999 : Int) ≤ (1000000 : Int) ∧
      (0 : Int) ≤ (0 : Int) ∧
        (0 : Int) ≤ (1000000 : Int) ∧
          (0 : Int) ≤ s_endA n'100 (s_rem li (IntKind.i64.wrap ((2 : Int) * n'100))) ∧
            s_endA n'100 (s_rem li (IntKind.i64.wrap ((2 : Int) * n'100))) ≤ (1000000 : Int) ∧
              (1 : Int) ≤ (2305843009213693952 : Int) ∧
                s_actsOk [[AV.int IntKind.i64 (0 : Int), AV.int IntKind.i64 (0 : Int), AV.str (ByteArray.mk #[])]])) ∧
     (br ((s_emit
      (s_hit n'100 (2 : Int) (s_rem li (IntKind.i64.wrap ((2 : Int) * n'100)))
        (s_endB n'100 (s_rem li (IntKind.i64.wrap ((2 : Int) * n'100))))
        (s_endA n'100 (s_rem li (IntKind.i64.wrap ((2 : Int) * n'100)))))
      (0 : Int) (1000 : Int) [[AV.int IntKind.i64 (0 : Int), AV.int IntKind.i64 (0 : Int), AV.str (ByteArray.mk #[])]]
      (s_rem ro (999 : Int)) (0 : Int) (s_endA n'100 (s_rem li (IntKind.i64.wrap ((2 : Int) * n'100))))
      (ByteArray.mk #[(49 : UInt8)])).toList ==
  (ByteArray.mk #[]).toList)
      (br (s_linkB n'100 (s_rem a n'100) (s_rem b n'100))
       (br (s_linkN n'100 (s_rem a n'100) (s_rem b n'100) == s_rem li (IntKind.i64.wrap ((2 : Int) * n'100)))
        (Q ((AV.bool
    (s_right (2 : Int) (s_rem li (IntKind.i64.wrap ((2 : Int) * n'100))) (1000 : Int) (s_rem ro (999 : Int))
      (s_endA n'100 (s_rem li (IntKind.i64.wrap ((2 : Int) * n'100))))),
  [])))
        (br (!s_linkB n'100 (s_rem a n'100) (s_rem b n'100))
         (Q ((AV.bool
    (s_right (2 : Int) (s_rem li (IntKind.i64.wrap ((2 : Int) * n'100))) (1000 : Int) (s_rem ro (999 : Int))
      (s_endA n'100 (s_rem li (IntKind.i64.wrap ((2 : Int) * n'100))))),
  [])))
         (((Hyp (s_confOk n'100 pi'101 e'102 g'103 fi'104
      (List.map (fun r => (r.getD (0 : Nat) AV.gone).toI) (List.map (fun n => [AV.int IntKind.i64 n]) ps106)) =
    true ∧
  (0 : Int) ≤ s_rem ro (999 : Int) ∧
    s_rem ro (999 : Int) ≤ (1000000 : Int) ∧
      (0 : Int) ≤ (0 : Int) ∧
        (0 : Int) ≤ (1000000 : Int) ∧
          (0 : Int) ≤ s_rem b n'100 ∧
            s_rem b n'100 ≤ (1000000 : Int) ∧
              (1 : Int) ≤ (2305843009213693952 : Int) ∧
                s_actsOk [[AV.int IntKind.i64 (0 : Int), AV.int IntKind.i64 (0 : Int), AV.str (ByteArray.mk #[])]])) ∧
         (br ((s_emit (s_hit n'100 (2 : Int) (s_rem li (IntKind.i64.wrap ((2 : Int) * n'100))) (s_rem a n'100) (s_rem b n'100))
      (0 : Int) (1000 : Int) [[AV.int IntKind.i64 (0 : Int), AV.int IntKind.i64 (0 : Int), AV.str (ByteArray.mk #[])]]
      (s_rem ro (999 : Int)) (0 : Int) (s_rem b n'100) (ByteArray.mk #[(49 : UInt8)])).toList ==
  (ByteArray.mk #[(49 : UInt8)]).toList)
          (Q ((AV.bool
    (s_right (2 : Int) (s_rem li (IntKind.i64.wrap ((2 : Int) * n'100))) (1000 : Int) (s_rem ro (999 : Int))
      (s_endA n'100 (s_rem li (IntKind.i64.wrap ((2 : Int) * n'100))))),
  [])))
          (Q ((AV.bool false, []))))))))
       (br (!s_linkB n'100 (s_rem a n'100) (s_rem b n'100))
        (Q ((AV.bool
    (s_right (2 : Int) (s_rem li (IntKind.i64.wrap ((2 : Int) * n'100))) (1000 : Int) (s_rem ro (999 : Int))
      (s_endA n'100 (s_rem li (IntKind.i64.wrap ((2 : Int) * n'100))))),
  [])))
        (((Hyp (s_confOk n'100 pi'101 e'102 g'103 fi'104
      (List.map (fun r => (r.getD (0 : Nat) AV.gone).toI) (List.map (fun n => [AV.int IntKind.i64 n]) ps106)) =
    true ∧
  (0 : Int) ≤ s_rem ro (999 : Int) ∧
    s_rem ro (999 : Int) ≤ (1000000 : Int) ∧
      (0 : Int) ≤ (0 : Int) ∧
        (0 : Int) ≤ (1000000 : Int) ∧
          (0 : Int) ≤ s_rem b n'100 ∧
            s_rem b n'100 ≤ (1000000 : Int) ∧
              (1 : Int) ≤ (2305843009213693952 : Int) ∧
                s_actsOk [[AV.int IntKind.i64 (0 : Int), AV.int IntKind.i64 (0 : Int), AV.str (ByteArray.mk #[])]])) ∧
        (br ((s_emit (s_hit n'100 (2 : Int) (s_rem li (IntKind.i64.wrap ((2 : Int) * n'100))) (s_rem a n'100) (s_rem b n'100))
      (0 : Int) (1000 : Int) [[AV.int IntKind.i64 (0 : Int), AV.int IntKind.i64 (0 : Int), AV.str (ByteArray.mk #[])]]
      (s_rem ro (999 : Int)) (0 : Int) (s_rem b n'100) (ByteArray.mk #[(49 : UInt8)])).toList ==
  (ByteArray.mk #[(49 : UInt8)]).toList)
         (Q ((AV.bool
    (s_right (2 : Int) (s_rem li (IntKind.i64.wrap ((2 : Int) * n'100))) (1000 : Int) (s_rem ro (999 : Int))
      (s_endA n'100 (s_rem li (IntKind.i64.wrap ((2 : Int) * n'100))))),
  [])))
         (Q ((AV.bool false, []))))))))
      (Q ((AV.bool false, []))))))
     (Q ((AV.bool false, []))))))
    (Q ((AV.bool false, [])))))))
  (Q ((AV.bool false, []))))))
 (Q ((AV.bool false, []))))))))))))))))))))) := by kernel_rfl
end Go.Proofs.YtikmaidjpffakaaE
