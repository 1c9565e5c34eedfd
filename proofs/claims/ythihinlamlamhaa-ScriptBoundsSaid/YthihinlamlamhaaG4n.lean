/- What path mode says of functions, printed by a program of this session; the kernel holds each. -/
import Derived.Test.YthihinlamlamhaaG4d
import Derived.KernelRfl
namespace Go.Proofs.YthihinlamlamhaaE
open Go
set_option maxRecDepth 100000
set_option linter.unusedVariables false
theorem nf10 (n pi e g fi : Int) (nl : Bool) (rs : List (List AV)) (Q : AV × List AObj → Prop) : inlW Try.prog H0 SCL 6 (InO Try.prog H0 SCL 6 6) 10 [cf n pi e g fi nl rs] [] Q = (
br (s_rem fi (3 : Int) == (0 : Int))
 (((Hyp ((0 : Int) = (0 : Int) ∧
  (6 : Int) ≤ IntKind.i64.wrap ((6 : Int) + s_rem n (7 : Int)) ∧
    IntKind.i64.wrap ((6 : Int) + s_rem n (7 : Int)) ≤ (12 : Int))) ∧
 (((Q ((AV.agg
    [AV.int IntKind.i64 (IntKind.i64.wrap ((6 : Int) + s_rem n (7 : Int))),
      AV.int IntKind.i64
        (IntKind.i64.wrap
          (IntKind.i64.wrap
              ((4 : Int) * IntKind.i64.wrap (IntKind.i64.wrap (s_rem e (21 : Int) + s_rem g (21 : Int)) + (1 : Int))) +
            s_rem pi (100 : Int))),
      AV.int IntKind.i64 (s_rem e (21 : Int)), AV.int IntKind.i64 (s_rem g (21 : Int)),
      AV.int IntKind.i64 (IntKind.i64.wrap ((65535 : Int) - s_rem fi (40 : Int))), AV.row true [K.int IntKind.i64] []],
  []))) ∧
 ((∀ (ps103 : List Int),
 ((ps103.length ≤ (3 : Nat)) →
 ((∀ (p : Int), p ∈ ps103 → (-1 : Int) ≤ p ∧ p < IntKind.i64.wrap ((6 : Int) + s_rem n (7 : Int))) →
 chk ((0 : Nat) + ps103.length ≤ (List.map (fun n => [AV.int IntKind.i64 n]) ps103).length) (Q ((AV.agg
    [AV.int IntKind.i64 (IntKind.i64.wrap ((6 : Int) + s_rem n (7 : Int))),
      AV.int IntKind.i64
        (IntKind.i64.wrap
          (IntKind.i64.wrap
              ((4 : Int) * IntKind.i64.wrap (IntKind.i64.wrap (s_rem e (21 : Int) + s_rem g (21 : Int)) + (1 : Int))) +
            s_rem pi (100 : Int))),
      AV.int IntKind.i64 (s_rem e (21 : Int)), AV.int IntKind.i64 (s_rem g (21 : Int)),
      AV.int IntKind.i64 (IntKind.i64.wrap ((65535 : Int) - s_rem fi (40 : Int))),
      AV.row false [K.int IntKind.i64]
        (List.take ps103.length (List.drop (0 : Nat) (List.map (fun n => [AV.int IntKind.i64 n]) ps103)))],
  [])))))))))))
 (((Hyp ((0 : Int) = (0 : Int) ∧
  (6 : Int) ≤ IntKind.i64.wrap ((6 : Int) + s_rem n (7 : Int)) ∧
    IntKind.i64.wrap ((6 : Int) + s_rem n (7 : Int)) ≤ (12 : Int))) ∧
 (((Q ((AV.agg
    [AV.int IntKind.i64 (IntKind.i64.wrap ((6 : Int) + s_rem n (7 : Int))),
      AV.int IntKind.i64
        (IntKind.i64.wrap
          (IntKind.i64.wrap
              ((4 : Int) * IntKind.i64.wrap (IntKind.i64.wrap (s_rem e (21 : Int) + s_rem g (21 : Int)) + (1 : Int))) +
            s_rem pi (100 : Int))),
      AV.int IntKind.i64 (s_rem e (21 : Int)), AV.int IntKind.i64 (s_rem g (21 : Int)),
      AV.int IntKind.i64 (s_rem fi (65536 : Int)), AV.row true [K.int IntKind.i64] []],
  []))) ∧
 ((∀ (ps103 : List Int),
 ((ps103.length ≤ (3 : Nat)) →
 ((∀ (p : Int), p ∈ ps103 → (-1 : Int) ≤ p ∧ p < IntKind.i64.wrap ((6 : Int) + s_rem n (7 : Int))) →
 chk ((0 : Nat) + ps103.length ≤ (List.map (fun n => [AV.int IntKind.i64 n]) ps103).length) (Q ((AV.agg
    [AV.int IntKind.i64 (IntKind.i64.wrap ((6 : Int) + s_rem n (7 : Int))),
      AV.int IntKind.i64
        (IntKind.i64.wrap
          (IntKind.i64.wrap
              ((4 : Int) * IntKind.i64.wrap (IntKind.i64.wrap (s_rem e (21 : Int) + s_rem g (21 : Int)) + (1 : Int))) +
            s_rem pi (100 : Int))),
      AV.int IntKind.i64 (s_rem e (21 : Int)), AV.int IntKind.i64 (s_rem g (21 : Int)),
      AV.int IntKind.i64 (s_rem fi (65536 : Int)),
      AV.row false [K.int IntKind.i64]
        (List.take ps103.length (List.drop (0 : Nat) (List.map (fun n => [AV.int IntKind.i64 n]) ps103)))],
  [])))))))))))) := by kernel_rfl
theorem nf10a (i n pi e g fi n' pi' e' g' fi' : Int) (nl : Bool) (rs : List (List AV)) (z1 z2 z3 z4 z5 : Int) (Q : Ex → List AV → List AObj → Prop) : lpBody Try.prog H0 S5 6 6 10 6 [.ptr 0 0, .ptr 1 0, .ptr 2 0, .int .i64 i] [.box [.int .i64 n', .int .i64 pi', .int .i64 e', .int .i64 g', .int .i64 fi', .row nl [.int .i64] rs], .box [.int .i64 z1, .int .i64 z2, .int .i64 z3, .int .i64 z4, .int .i64 z5, .nils], .box [.int .i64 n, .int .i64 pi, .int .i64 e, .int .i64 g, .int .i64 fi, .nils]] Q = (
br (decide (i < (↑rs.length : Int)))
 (br (decide (i < (3 : Int)))
  (chk ((0 : Int) ≤ i ∧ i < (↑rs.length : Int)) (chk ((0 : Int) < IntKind.i64.wrap (n + (1 : Int)) ∧ IntKind.i64.wrap (n + (1 : Int)) < (9223372036854775808 : Int)) (Q (Ex.nrm) ([AV.ptr (0 : Nat) (0 : Nat), AV.ptr (1 : Nat) (0 : Nat), AV.ptr (2 : Nat) (0 : Nat),
  AV.int IntKind.i64 (IntKind.i64.wrap (i + (1 : Int)))]) ([AObj.box
    [AV.int IntKind.i64 n', AV.int IntKind.i64 pi', AV.int IntKind.i64 e', AV.int IntKind.i64 g',
      AV.int IntKind.i64 fi', AV.row nl [K.int IntKind.i64] rs],
  AObj.box
    [AV.int IntKind.i64 z1, AV.int IntKind.i64 z2, AV.int IntKind.i64 z3, AV.int IntKind.i64 z4, AV.int IntKind.i64 z5,
      AV.nils],
  AObj.box
    [AV.int IntKind.i64 n, AV.int IntKind.i64 pi, AV.int IntKind.i64 e, AV.int IntKind.i64 g, AV.int IntKind.i64 fi,
      AV.sl (3 : Nat) (0 : Nat) (1 : Nat)],
  AObj.arr (2 : Nat) (3 : Nat) [K.int IntKind.i64]
    [[AV.int IntKind.i64
          (IntKind.i64.wrap
            (s_rem ((rs.getD i.toNat []).getD (0 : Nat) AV.gone).toI (IntKind.i64.wrap (n + (1 : Int))) - (1 : Int)))]]]))))
  (Q (Ex.exit (0 : Nat)) ([AV.ptr (0 : Nat) (0 : Nat), AV.ptr (1 : Nat) (0 : Nat)]) ([AObj.box
    [AV.int IntKind.i64 z1, AV.int IntKind.i64 z2, AV.int IntKind.i64 z3, AV.int IntKind.i64 z4, AV.int IntKind.i64 z5,
      AV.nils],
  AObj.box
    [AV.int IntKind.i64 n, AV.int IntKind.i64 pi, AV.int IntKind.i64 e, AV.int IntKind.i64 g, AV.int IntKind.i64 fi,
      AV.nils]])))
 (Q (Ex.exit (0 : Nat)) ([AV.ptr (0 : Nat) (0 : Nat), AV.ptr (1 : Nat) (0 : Nat)]) ([AObj.box
    [AV.int IntKind.i64 z1, AV.int IntKind.i64 z2, AV.int IntKind.i64 z3, AV.int IntKind.i64 z4, AV.int IntKind.i64 z5,
      AV.nils],
  AObj.box
    [AV.int IntKind.i64 n, AV.int IntKind.i64 pi, AV.int IntKind.i64 e, AV.int IntKind.i64 g, AV.int IntKind.i64 fi,
      AV.nils]]))) := by kernel_rfl
theorem nf10b (z1 z2 z3 z4 z5 i n pi e g fi n' pi' e' g' fi' : Int) (nl : Bool) (rs rows : List (List AV)) (m : Nat) (Q : Ex → List AV → List AObj → Prop) : lpBody Try.prog H0 S5 6 6 10 6 [.ptr 0 0, .ptr 1 0, .ptr 2 0, .int .i64 i] [.box [.int .i64 n', .int .i64 pi', .int .i64 e', .int .i64 g', .int .i64 fi', .row nl [.int .i64] rs], .box [.int .i64 z1, .int .i64 z2, .int .i64 z3, .int .i64 z4, .int .i64 z5, .nils], .box [.int .i64 n, .int .i64 pi, .int .i64 e, .int .i64 g, .int .i64 fi, .sl 3 0 m], .arr 2 3 [.int .i64] rows] Q = (
br (decide (i < (↑rs.length : Int)))
 (br (decide (i < (3 : Int)))
  (chk ((0 : Int) ≤ i ∧ i < (↑rs.length : Int)) (chk ((0 : Int) < IntKind.i64.wrap (n + (1 : Int)) ∧ IntKind.i64.wrap (n + (1 : Int)) < (9223372036854775808 : Int)) (chk (m = rows.length) (chk ((rows.length + (1 : Nat)) * (8 : Nat) ≤ (140737488355328 : Nat)) (chk (rows.length + (1 : Nat) ≤ (9223372036854775807 : Nat)) (Q (Ex.nrm) ([AV.ptr (0 : Nat) (0 : Nat), AV.ptr (1 : Nat) (0 : Nat), AV.ptr (2 : Nat) (0 : Nat),
  AV.int IntKind.i64 (IntKind.i64.wrap (i + (1 : Int)))]) ([AObj.box
    [AV.int IntKind.i64 n', AV.int IntKind.i64 pi', AV.int IntKind.i64 e', AV.int IntKind.i64 g',
      AV.int IntKind.i64 fi', AV.row nl [K.int IntKind.i64] rs],
  AObj.box
    [AV.int IntKind.i64 z1, AV.int IntKind.i64 z2, AV.int IntKind.i64 z3, AV.int IntKind.i64 z4, AV.int IntKind.i64 z5,
      AV.nils],
  AObj.box
    [AV.int IntKind.i64 n, AV.int IntKind.i64 pi, AV.int IntKind.i64 e, AV.int IntKind.i64 g, AV.int IntKind.i64 fi,
      AV.sl (3 : Nat) (0 : Nat) (rows.length + (1 : Nat))],
  AObj.arr (2 : Nat) (3 : Nat) [K.int IntKind.i64]
    (rows ++
      [[AV.int IntKind.i64
            (IntKind.i64.wrap
              (s_rem ((rs.getD i.toNat []).getD (0 : Nat) AV.gone).toI (IntKind.i64.wrap (n + (1 : Int))) -
                (1 : Int)))]])])))))))
  (Q (Ex.exit (0 : Nat)) ([AV.ptr (0 : Nat) (0 : Nat), AV.ptr (1 : Nat) (0 : Nat)]) ([AObj.box
    [AV.int IntKind.i64 z1, AV.int IntKind.i64 z2, AV.int IntKind.i64 z3, AV.int IntKind.i64 z4, AV.int IntKind.i64 z5,
      AV.nils],
  AObj.box
    [AV.int IntKind.i64 n, AV.int IntKind.i64 pi, AV.int IntKind.i64 e, AV.int IntKind.i64 g, AV.int IntKind.i64 fi,
      AV.sl (2 : Nat) (0 : Nat) m],
  AObj.arr (2 : Nat) (3 : Nat) [K.int IntKind.i64] rows])))
 (Q (Ex.exit (0 : Nat)) ([AV.ptr (0 : Nat) (0 : Nat), AV.ptr (1 : Nat) (0 : Nat)]) ([AObj.box
    [AV.int IntKind.i64 z1, AV.int IntKind.i64 z2, AV.int IntKind.i64 z3, AV.int IntKind.i64 z4, AV.int IntKind.i64 z5,
      AV.nils],
  AObj.box
    [AV.int IntKind.i64 n, AV.int IntKind.i64 pi, AV.int IntKind.i64 e, AV.int IntKind.i64 g, AV.int IntKind.i64 fi,
      AV.sl (2 : Nat) (0 : Nat) m],
  AObj.arr (2 : Nat) (3 : Nat) [K.int IntKind.i64] rows]))) := by kernel_rfl
theorem nf19n (n pi e g fi : Int) (Q : AV × List AObj → Prop) : inlW Try.prog H0 S5 6 (InO Try.prog H0 S5 6 6) 19 [.agg [.int .i64 n, .int .i64 pi, .int .i64 e, .int .i64 g, .int .i64 fi, .nils]] [] Q = (
br (decide (n ≥ (6 : Int)))
 (br (!decide (n ≤ (12 : Int)))
  (Q ((AV.int IntKind.i64 (1 : Int), [])))
  (br (decide (e ≥ (0 : Int)))
   (br (!decide (e ≤ (100 : Int)))
    (Q ((AV.int IntKind.i64 (1 : Int), [])))
    (br (decide (g ≥ (0 : Int)))
     (br (!decide (g ≤ (100 : Int)))
      (Q ((AV.int IntKind.i64 (1 : Int), [])))
      (br (decide (fi ≥ (0 : Int)))
       (br (!decide (fi ≤ (65535 : Int)))
        (Q ((AV.int IntKind.i64 (1 : Int), [])))
        (br (decide (pi ≥ IntKind.i64.wrap ((4 : Int) * IntKind.i64.wrap (IntKind.i64.wrap (e + g) + (1 : Int)))))
         (br (!decide (pi ≤ (10000 : Int)))
          (Q ((AV.int IntKind.i64 (1 : Int), [])))
          (Q ((AV.int IntKind.i64 (0 : Int), []))))
         (Q ((AV.int IntKind.i64 (1 : Int), [])))))
       (Q ((AV.int IntKind.i64 (1 : Int), [])))))
     (Q ((AV.int IntKind.i64 (1 : Int), [])))))
   (Q ((AV.int IntKind.i64 (1 : Int), [])))))
 (Q ((AV.int IntKind.i64 (1 : Int), [])))) := by kernel_rfl
theorem nf19z (n pi e g fi : Int) (nl : Bool) (Q : AV × List AObj → Prop) : inlW Try.prog H0 S5 6 (InO Try.prog H0 S5 6 6) 19 [cf n pi e g fi nl []] [] Q = (
br (decide (n ≥ (6 : Int)))
 (br (!decide (n ≤ (12 : Int)))
  (Q ((AV.int IntKind.i64 (1 : Int), [])))
  (br (decide (e ≥ (0 : Int)))
   (br (!decide (e ≤ (100 : Int)))
    (Q ((AV.int IntKind.i64 (1 : Int), [])))
    (br (decide (g ≥ (0 : Int)))
     (br (!decide (g ≤ (100 : Int)))
      (Q ((AV.int IntKind.i64 (1 : Int), [])))
      (br (decide (fi ≥ (0 : Int)))
       (br (!decide (fi ≤ (65535 : Int)))
        (Q ((AV.int IntKind.i64 (1 : Int), [])))
        (br (decide (pi ≥ IntKind.i64.wrap ((4 : Int) * IntKind.i64.wrap (IntKind.i64.wrap (e + g) + (1 : Int)))))
         (br (!decide (pi ≤ (10000 : Int)))
          (Q ((AV.int IntKind.i64 (1 : Int), [])))
          (Q ((AV.int IntKind.i64 (0 : Int), []))))
         (Q ((AV.int IntKind.i64 (1 : Int), [])))))
       (Q ((AV.int IntKind.i64 (1 : Int), [])))))
     (Q ((AV.int IntKind.i64 (1 : Int), [])))))
   (Q ((AV.int IntKind.i64 (1 : Int), [])))))
 (Q ((AV.int IntKind.i64 (1 : Int), [])))) := by kernel_rfl
theorem nf19a (n pi e g fi : Int) (nl : Bool) (a : List AV) (Q : AV × List AObj → Prop) : inlW Try.prog H0 S5 6 (InO Try.prog H0 S5 6 6) 19 [cf n pi e g fi nl [a]] [] Q = (
br (decide (n ≥ (6 : Int)))
 (br (!decide (n ≤ (12 : Int)))
  (Q ((AV.int IntKind.i64 (1 : Int), [])))
  (br (decide (e ≥ (0 : Int)))
   (br (!decide (e ≤ (100 : Int)))
    (Q ((AV.int IntKind.i64 (1 : Int), [])))
    (br (decide (g ≥ (0 : Int)))
     (br (!decide (g ≤ (100 : Int)))
      (Q ((AV.int IntKind.i64 (1 : Int), [])))
      (br (decide (fi ≥ (0 : Int)))
       (br (!decide (fi ≤ (65535 : Int)))
        (Q ((AV.int IntKind.i64 (1 : Int), [])))
        (br (decide (pi ≥ IntKind.i64.wrap ((4 : Int) * IntKind.i64.wrap (IntKind.i64.wrap (e + g) + (1 : Int)))))
         (br (!decide (pi ≤ (10000 : Int)))
          (Q ((AV.int IntKind.i64 (1 : Int), [])))
          (br (decide ((([a].getD (0 : Nat) []).getD (0 : Nat) AV.gone).toI ≥ (-1 : Int)))
           (br (!decide ((([a].getD (0 : Nat) []).getD (0 : Nat) AV.gone).toI ≤ IntKind.i64.wrap (n - (1 : Int))))
            (Q ((AV.int IntKind.i64 (1 : Int), [])))
            (Q ((AV.int IntKind.i64 (0 : Int), []))))
           (Q ((AV.int IntKind.i64 (1 : Int), [])))))
         (Q ((AV.int IntKind.i64 (1 : Int), [])))))
       (Q ((AV.int IntKind.i64 (1 : Int), [])))))
     (Q ((AV.int IntKind.i64 (1 : Int), [])))))
   (Q ((AV.int IntKind.i64 (1 : Int), [])))))
 (Q ((AV.int IntKind.i64 (1 : Int), [])))) := by kernel_rfl
theorem nf19b (n pi e g fi : Int) (nl : Bool) (a b : List AV) (Q : AV × List AObj → Prop) : inlW Try.prog H0 S5 6 (InO Try.prog H0 S5 6 6) 19 [cf n pi e g fi nl [a, b]] [] Q = (
br (decide (n ≥ (6 : Int)))
 (br (!decide (n ≤ (12 : Int)))
  (Q ((AV.int IntKind.i64 (1 : Int), [])))
  (br (decide (e ≥ (0 : Int)))
   (br (!decide (e ≤ (100 : Int)))
    (Q ((AV.int IntKind.i64 (1 : Int), [])))
    (br (decide (g ≥ (0 : Int)))
     (br (!decide (g ≤ (100 : Int)))
      (Q ((AV.int IntKind.i64 (1 : Int), [])))
      (br (decide (fi ≥ (0 : Int)))
       (br (!decide (fi ≤ (65535 : Int)))
        (Q ((AV.int IntKind.i64 (1 : Int), [])))
        (br (decide (pi ≥ IntKind.i64.wrap ((4 : Int) * IntKind.i64.wrap (IntKind.i64.wrap (e + g) + (1 : Int)))))
         (br (!decide (pi ≤ (10000 : Int)))
          (Q ((AV.int IntKind.i64 (1 : Int), [])))
          (br (decide ((([a, b].getD (0 : Nat) []).getD (0 : Nat) AV.gone).toI ≥ (-1 : Int)))
           (br (!decide ((([a, b].getD (0 : Nat) []).getD (0 : Nat) AV.gone).toI ≤ IntKind.i64.wrap (n - (1 : Int))))
            (Q ((AV.int IntKind.i64 (1 : Int), [])))
            (br (decide ((([a, b].getD (1 : Nat) []).getD (0 : Nat) AV.gone).toI ≥ (-1 : Int)))
             (br (!decide ((([a, b].getD (1 : Nat) []).getD (0 : Nat) AV.gone).toI ≤ IntKind.i64.wrap (n - (1 : Int))))
              (Q ((AV.int IntKind.i64 (1 : Int), [])))
              (Q ((AV.int IntKind.i64 (0 : Int), []))))
             (Q ((AV.int IntKind.i64 (1 : Int), [])))))
           (Q ((AV.int IntKind.i64 (1 : Int), [])))))
         (Q ((AV.int IntKind.i64 (1 : Int), [])))))
       (Q ((AV.int IntKind.i64 (1 : Int), [])))))
     (Q ((AV.int IntKind.i64 (1 : Int), [])))))
   (Q ((AV.int IntKind.i64 (1 : Int), [])))))
 (Q ((AV.int IntKind.i64 (1 : Int), [])))) := by kernel_rfl
theorem nf19c (n pi e g fi : Int) (nl : Bool) (a b c : List AV) (Q : AV × List AObj → Prop) : inlW Try.prog H0 S5 6 (InO Try.prog H0 S5 6 6) 19 [cf n pi e g fi nl [a, b, c]] [] Q = (
br (decide (n ≥ (6 : Int)))
 (br (!decide (n ≤ (12 : Int)))
  (Q ((AV.int IntKind.i64 (1 : Int), [])))
  (br (decide (e ≥ (0 : Int)))
   (br (!decide (e ≤ (100 : Int)))
    (Q ((AV.int IntKind.i64 (1 : Int), [])))
    (br (decide (g ≥ (0 : Int)))
     (br (!decide (g ≤ (100 : Int)))
      (Q ((AV.int IntKind.i64 (1 : Int), [])))
      (br (decide (fi ≥ (0 : Int)))
       (br (!decide (fi ≤ (65535 : Int)))
        (Q ((AV.int IntKind.i64 (1 : Int), [])))
        (br (decide (pi ≥ IntKind.i64.wrap ((4 : Int) * IntKind.i64.wrap (IntKind.i64.wrap (e + g) + (1 : Int)))))
         (br (!decide (pi ≤ (10000 : Int)))
          (Q ((AV.int IntKind.i64 (1 : Int), [])))
          (br (decide ((([a, b, c].getD (0 : Nat) []).getD (0 : Nat) AV.gone).toI ≥ (-1 : Int)))
           (br (!decide ((([a, b, c].getD (0 : Nat) []).getD (0 : Nat) AV.gone).toI ≤ IntKind.i64.wrap (n - (1 : Int))))
            (Q ((AV.int IntKind.i64 (1 : Int), [])))
            (br (decide ((([a, b, c].getD (1 : Nat) []).getD (0 : Nat) AV.gone).toI ≥ (-1 : Int)))
             (br (!decide ((([a, b, c].getD (1 : Nat) []).getD (0 : Nat) AV.gone).toI ≤ IntKind.i64.wrap (n - (1 : Int))))
              (Q ((AV.int IntKind.i64 (1 : Int), [])))
              (br (decide ((([a, b, c].getD (2 : Nat) []).getD (0 : Nat) AV.gone).toI ≥ (-1 : Int)))
               (br (!decide ((([a, b, c].getD (2 : Nat) []).getD (0 : Nat) AV.gone).toI ≤ IntKind.i64.wrap (n - (1 : Int))))
                (Q ((AV.int IntKind.i64 (1 : Int), [])))
                (Q ((AV.int IntKind.i64 (0 : Int), []))))
               (Q ((AV.int IntKind.i64 (1 : Int), [])))))
             (Q ((AV.int IntKind.i64 (1 : Int), [])))))
           (Q ((AV.int IntKind.i64 (1 : Int), [])))))
         (Q ((AV.int IntKind.i64 (1 : Int), [])))))
       (Q ((AV.int IntKind.i64 (1 : Int), [])))))
     (Q ((AV.int IntKind.i64 (1 : Int), [])))))
   (Q ((AV.int IntKind.i64 (1 : Int), [])))))
 (Q ((AV.int IntKind.i64 (1 : Int), [])))) := by kernel_rfl
end Go.Proofs.YthihinlamlamhaaE
