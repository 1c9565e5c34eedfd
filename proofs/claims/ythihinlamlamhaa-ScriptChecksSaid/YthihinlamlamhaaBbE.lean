/- ScriptChecks: specs of what is not too much. -/
import Derived.Test.YthihinlamlamhaaBbD
import Derived.KernelRfl
import Derived.Test.YthihinlamlamhaaBbA
namespace Go.Proofs.YthihinlamlamhaaE
open Go
set_option linter.unusedVariables false

def sFew : SW := fun args h Q => match args, h with
  | [.agg [.int .i64 k, .int .i64 a, .int .i64 f, .int .i64 t, .row b4 [.int .i64, .int .i64, .str] r4, .row b5 [.int .i64] r5]], [] =>
    Hyp (r4.length ≤ 9223372036854775807) ∧ ∀ v : Bool, (v = true → r4.length ≤ 50 ∧ r5.length ≤ 50) → Q (.bool v, [])
  | _, _ => False
def lFew : LW := fun vals h Q => match vals, h with
  | [.ptr 0 0, .int .i64 i], [.box [.int .i64 k, .int .i64 a, .int .i64 f, .int .i64 t, .row b4 [.int .i64, .int .i64, .str] r4, .row b5 [.int .i64] r5]] =>
    Hyp (0 ≤ i ∧ i ≤ r4.length ∧ r4.length ≤ 9223372036854775807) ∧ (Q (.exit 0) [.ptr 0 0] [.box [.int .i64 k, .int .i64 a, .int .i64 f, .int .i64 t, .row b4 [.int .i64, .int .i64, .str] r4, .row b5 [.int .i64] r5]] ∧ Q .ret [.bool false] [])
  | _, _ => False
def sFews : SW := fun args h Q => match args, h with
  | [.agg [.row b0 [.int .i64] r0, .row b1 [.int .i64] r1, .row b2 [.int .i64] r2, .row b3 [.int .i64, .int .i64, .int .i64, .int .i64] r3, .int .i64 k, .int .i64 a, .int .i64 f, .int .i64 t, .row b4 [.int .i64, .int .i64, .str] r4, .row b5 [.int .i64] r5, .int .i64 z]], [] =>
    Hyp (r4.length ≤ 9223372036854775807) ∧ ∀ v : Bool, (v = true → r0.length ≤ 20 ∧ r1.length ≤ 70 ∧ r2.length ≤ 70 ∧ r3.length ≤ 110 ∧ r4.length ≤ 50 ∧ r5.length ≤ 50) → Q (.bool v, [])
  | _, _ => False
def T9L : Sp := ⟨T8.fn, [(39, 2, lFew)]⟩
def T9 : Sp := ⟨(39, sFew) :: T8.fn, []⟩
def TA : Sp := ⟨(15, sFews) :: T9.fn, []⟩
end Go.Proofs.YthihinlamlamhaaE
/- What path mode says of functions, printed by a program of this session; the kernel holds each. -/
namespace Go.Proofs.YthihinlamlamhaaE
open Go
set_option maxRecDepth 100000
set_option linter.unusedVariables false
theorem nf39a (i : Int) (k a f t : Int) (b4 b5 : Bool) (r4 r5 : List (List AV)) (Q : Ex → List AV → List AObj → Prop) : lpBody Try.prog H0 T8 6 6 39 2 [.ptr 0 0, .int .i64 i] [.box [.int .i64 k, .int .i64 a, .int .i64 f, .int .i64 t, .row b4 [.int .i64, .int .i64, .str] r4, .row b5 [.int .i64] r5]] Q = (
br (decide (i < (↑r4.length : Int)))
 (chk ((0 : Int) ≤ i ∧ i < (↑r4.length : Int)) (br (decide ((↑((r4.getD i.toNat []).getD (2 : Nat) AV.gone).toS.size : Int) > (1200 : Int)))
  (Q (Ex.ret) ([AV.bool false]) ([]))
  (Q (Ex.nrm) ([AV.ptr (0 : Nat) (0 : Nat), AV.int IntKind.i64 (IntKind.i64.wrap (i + (1 : Int)))]) ([AObj.box
    [AV.int IntKind.i64 k, AV.int IntKind.i64 a, AV.int IntKind.i64 f, AV.int IntKind.i64 t,
      AV.row b4 [K.int IntKind.i64, K.int IntKind.i64, K.str] r4, AV.row b5 [K.int IntKind.i64] r5]]))))
 (Q (Ex.exit (0 : Nat)) ([AV.ptr (0 : Nat) (0 : Nat)]) ([AObj.box
    [AV.int IntKind.i64 k, AV.int IntKind.i64 a, AV.int IntKind.i64 f, AV.int IntKind.i64 t,
      AV.row b4 [K.int IntKind.i64, K.int IntKind.i64, K.str] r4, AV.row b5 [K.int IntKind.i64] r5]]))) := by kernel_rfl
theorem nf39 (k a f t : Int) (b4 b5 : Bool) (r4 r5 : List (List AV)) (Q : AV × List AObj → Prop) : inlW Try.prog H0 T9L 6 (InO Try.prog H0 T9L 6 6) 39 [.agg [.int .i64 k, .int .i64 a, .int .i64 f, .int .i64 t, .row b4 [.int .i64, .int .i64, .str] r4, .row b5 [.int .i64] r5]] [] Q = (
((Hyp ((0 : Int) ≤ (0 : Int) ∧ (0 : Int) ≤ (↑r4.length : Int) ∧ r4.length ≤ (9223372036854775807 : Nat))) ∧
(((br (decide ((↑r4.length : Int) ≤ (50 : Int)))
 (Q ((AV.bool (decide ((↑r5.length : Int) ≤ (50 : Int))), [])))
 (Q ((AV.bool false, [])))) ∧
(Q ((AV.bool false, []))))))) := by kernel_rfl
theorem nf15 (b0 b1 b2 b3 b4 b5 : Bool) (r0 r1 r2 r3 r4 r5 : List (List AV)) (k a f t z : Int) (Q : AV × List AObj → Prop) : inlW Try.prog H0 T9 6 (InO Try.prog H0 T9 6 6) 15 [.agg [.row b0 [.int .i64] r0, .row b1 [.int .i64] r1, .row b2 [.int .i64] r2, .row b3 [.int .i64, .int .i64, .int .i64, .int .i64] r3, .int .i64 k, .int .i64 a, .int .i64 f, .int .i64 t, .row b4 [.int .i64, .int .i64, .str] r4, .row b5 [.int .i64] r5, .int .i64 z]] [] Q = (
((Hyp (r4.length ≤ (9223372036854775807 : Nat))) ∧
((∀ (v101 : Bool),
((v101 = true → r4.length ≤ (50 : Nat) ∧ r5.length ≤ (50 : Nat)) →
br (v101)
 (br (decide ((↑r0.length : Int) ≤ (20 : Int)))
  (br (decide ((↑r1.length : Int) ≤ (70 : Int)))
   (br (decide ((↑r2.length : Int) ≤ (70 : Int)))
    (Q ((AV.bool (decide ((↑r3.length : Int) ≤ (110 : Int))), [])))
    (Q ((AV.bool false, []))))
   (Q ((AV.bool false, []))))
  (Q ((AV.bool false, []))))
 (Q ((AV.bool false, [])))))))) := by kernel_rfl
end Go.Proofs.YthihinlamlamhaaE
/- What path mode says of functions, printed by a program of this session; the kernel holds each. -/
namespace Go.Proofs.YthihinlamlamhaaE
open Go
set_option maxRecDepth 100000
set_option linter.unusedVariables false
theorem nf4 (n pi e g fi : Int) (nl : Bool) (ps : List (List AV)) (b0 b1 b2 b3 b4 b5 : Bool) (r0 r1 r2 r3 r4 r5 : List (List AV)) (k a f t z : Int) (nl2 : Bool) (rs : List (List AV)) (wh num : Int)(Q : AV × List AObj → Prop) : inlW Try.prog H0 TA 6 (InO Try.prog H0 TA 6 6) 4 [cf n pi e g fi nl ps, .agg [.row b0 [.int .i64] r0, .row b1 [.int .i64] r1, .row b2 [.int .i64] r2, .row b3 [.int .i64, .int .i64, .int .i64, .int .i64] r3, .int .i64 k, .int .i64 a, .int .i64 f, .int .i64 t, .row b4 [.int .i64, .int .i64, .str] r4, .row b5 [.int .i64] r5, .int .i64 z], .row nl2 [.int .u8] rs, .int .i64 wh, .int .i64 num] [] Q = (
((Hyp (r4.length ≤ (9223372036854775807 : Nat))) ∧
((∀ (v101 : Bool),
((v101 = true →
  r0.length ≤ (20 : Nat) ∧
    r1.length ≤ (70 : Nat) ∧
      r2.length ≤ (70 : Nat) ∧ r3.length ≤ (110 : Nat) ∧ r4.length ≤ (50 : Nat) ∧ r5.length ≤ (50 : Nat)) →
br (!v101)
 (Q ((AV.bool true, [])))
 (br (decide ((↑rs.length : Int) > (500 : Int)))
  (Q ((AV.bool true, [])))
  ((∀ (n'105 : Int),
  (∀ (pi'106 : Int),
  (∀ (e'107 : Int),
  (∀ (g'108 : Int),
  (∀ (fi'109 : Int),
  (∀ (nl'110 : Bool),
  (∀ (ps111 : List Int),
  ((s_made n'105 pi'106 e'107 g'108 fi'109 ps111) →
  ((Hyp (s_confOk n'105 pi'106 e'107 g'108 fi'109
      (List.map (fun r => (r.getD (0 : Nat) AV.gone).toI) (List.map (fun n => [AV.int IntKind.i64 n]) ps111)) =
    true ∧
  s_bytes rs ∧ (nl2 = true → rs = []) ∧ rs.length ≤ (100000 : Nat))) ∧
  ((∀ (nl''114 : Bool),
  (∀ (on115 : List (List AV)),
  (∀ (dr116 : List (List AV)),
  (∀ (er117 : List (List AV)),
  (∀ (ca118 : List (List AV)),
  (∀ (ac119 : List (List AV)),
  (∀ (dv120 : List (List AV)),
  (∀ (k121 : Int),
  (∀ (a122 : Int),
  (∀ (f123 : Int),
  (∀ (t124 : Int),
  (∀ (z125 : Int),
  ((on115.length = n'105.toNat ∧
  dr116.length = (8 : Nat) ∧
    er117.length = (8 : Nat) ∧ ac119.length ≤ (7 : Nat) ∧ dv120.length = (4 : Nat) ∧ ca118.length ≤ (15 : Nat)) →
  ((((ca118.length = (0 : Nat)) →
  ((Hyp ((0 : Int) ≤ n'105 ∧
  n'105 ≤ (1000000 : Int) ∧
    r0.length ≤ (9223372036854775807 : Nat) ∧
      r3.length ≤ (9223372036854775807 : Nat) ∧ r4.length ≤ (9223372036854775807 : Nat))) ∧
  (((Hyp ((0 : Int) ≤ n'105 ∧
  n'105 ≤ (1000000 : Int) ∧
    r0.length ≤ (9223372036854775807 : Nat) ∧
      r3.length ≤ (9223372036854775807 : Nat) ∧ r4.length ≤ (9223372036854775807 : Nat))) ∧
  (br (s_scheck n'105 (List.map (fun n => [AV.int IntKind.i64 n]) ps111).length r0 r1 r2 r3 k a f t r4 r5 z !=
  s_scheck n'105 (List.map (fun n => [AV.int IntKind.i64 n]) ps111).length r0 r1 r2 r3 k a f t r4 r5 z)
   (Q ((AV.bool false, [])))
   (br (s_rem wh (10 : Int) == (0 : Int))
    (chk ((0 : Int) ≤ s_rem num (4 : Int) ∧ s_rem num (4 : Int) < (4 : Int)) (chk ((0 : Nat) + (s_rem num (4 : Int)).toNat < (4 : Nat)) (chk ((0 : Nat) + on115.length ≤ on115.length) (chk ((0 : Nat) + on115.length ≤ on115.length) (((Hyp ((0 : Int) ≤ n'105 ∧
  n'105 ≤ (1000000 : Int) ∧
    (List.take on115.length (List.drop (0 : Nat) on115)).length ≤ (9223372036854775807 : Nat) ∧
      (0 : Nat) ≤ (9223372036854775807 : Nat) ∧ ac119.length ≤ (9223372036854775807 : Nat))) ∧
    (chk ((0 : Nat) + on115.length ≤ on115.length) (((Hyp ((0 : Int) ≤ n'105 ∧
  n'105 ≤ (1000000 : Int) ∧
    (List.take on115.length (List.drop (0 : Nat) on115)).length ≤ (9223372036854775807 : Nat) ∧
      (0 : Nat) ≤ (9223372036854775807 : Nat) ∧ ac119.length ≤ (9223372036854775807 : Nat))) ∧
    (Q ((AV.bool
    (s_scheck n'105 (List.map (fun n => [AV.int IntKind.i64 n]) ps111).length
        (List.take on115.length (List.drop (0 : Nat) on115)) dr116 er117 [] k121 a122 f123 t124 ac119 dv120
        (([[AV.int IntKind.i64 (-1 : Int)], [AV.int IntKind.i64 (200 : Int)], [AV.int IntKind.i64 (201 : Int)],
                    [AV.int IntKind.i64 num]].getD
                ((0 : Nat) + (s_rem num (4 : Int)).toNat) []).getD
            (0 : Nat) AV.gone).toI ==
      s_scheck n'105 (List.map (fun n => [AV.int IntKind.i64 n]) ps111).length
        (List.take on115.length (List.drop (0 : Nat) on115)) dr116 er117 [] k121 a122 f123 t124 ac119 dv120
        (([[AV.int IntKind.i64 (-1 : Int)], [AV.int IntKind.i64 (200 : Int)], [AV.int IntKind.i64 (201 : Int)],
                    [AV.int IntKind.i64 num]].getD
                ((0 : Nat) + (s_rem num (4 : Int)).toNat) []).getD
            (0 : Nat) AV.gone).toI),
  []))))))))))))
    (br (s_rem wh (10 : Int) == (1 : Int))
     (chk ((0 : Nat) + on115.length ≤ on115.length) (chk (((0 : Nat) + (List.take on115.length (List.drop (0 : Nat) on115)).length) * (8 : Nat) ≤ (140737488355328 : Nat)) (chk ((0 : Nat) + (List.take on115.length (List.drop (0 : Nat) on115)).length ≤ (9223372036854775807 : Nat)) (chk ((0 : Nat) + (List.take on115.length (List.drop (0 : Nat) on115)).length =
  ([] ++ List.take on115.length (List.drop (0 : Nat) on115)).length) (chk ((([] ++ List.take on115.length (List.drop (0 : Nat) on115)).length + (1 : Nat)) * (8 : Nat) ≤ (140737488355328 : Nat)) (chk (([] ++ List.take on115.length (List.drop (0 : Nat) on115)).length + (1 : Nat) ≤ (9223372036854775807 : Nat)) (chk ((0 : Nat) + (([] ++ List.take on115.length (List.drop (0 : Nat) on115)).length + (1 : Nat)) ≤
  ([] ++ List.take on115.length (List.drop (0 : Nat) on115) ++ [[AV.int IntKind.i64 (0 : Int)]]).length) (chk ((0 : Nat) + (([] ++ List.take on115.length (List.drop (0 : Nat) on115)).length + (1 : Nat)) ≤
  ([] ++ List.take on115.length (List.drop (0 : Nat) on115) ++ [[AV.int IntKind.i64 (0 : Int)]]).length) (((Hyp ((0 : Int) ≤ n'105 ∧
  n'105 ≤ (1000000 : Int) ∧
    (List.take (([] ++ List.take on115.length (List.drop (0 : Nat) on115)).length + (1 : Nat))
            (List.drop (0 : Nat)
              ([] ++ List.take on115.length (List.drop (0 : Nat) on115) ++ [[AV.int IntKind.i64 (0 : Int)]]))).length ≤
        (9223372036854775807 : Nat) ∧
      (0 : Nat) ≤ (9223372036854775807 : Nat) ∧ ac119.length ≤ (9223372036854775807 : Nat))) ∧
     (chk ((0 : Nat) + (([] ++ List.take on115.length (List.drop (0 : Nat) on115)).length + (1 : Nat)) ≤
  ([] ++ List.take on115.length (List.drop (0 : Nat) on115) ++ [[AV.int IntKind.i64 (0 : Int)]]).length) (((Hyp ((0 : Int) ≤ n'105 ∧
  n'105 ≤ (1000000 : Int) ∧
    (List.take (([] ++ List.take on115.length (List.drop (0 : Nat) on115)).length + (1 : Nat))
            (List.drop (0 : Nat)
              ([] ++ List.take on115.length (List.drop (0 : Nat) on115) ++ [[AV.int IntKind.i64 (0 : Int)]]))).length ≤
        (9223372036854775807 : Nat) ∧
      (0 : Nat) ≤ (9223372036854775807 : Nat) ∧ ac119.length ≤ (9223372036854775807 : Nat))) ∧
     (Q ((AV.bool
    (s_scheck n'105 (List.map (fun n => [AV.int IntKind.i64 n]) ps111).length
        (List.take (([] ++ List.take on115.length (List.drop (0 : Nat) on115)).length + (1 : Nat))
          (List.drop (0 : Nat)
            ([] ++ List.take on115.length (List.drop (0 : Nat) on115) ++ [[AV.int IntKind.i64 (0 : Int)]])))
        dr116 er117 [] k121 a122 f123 t124 ac119 dv120 z125 ==
      s_scheck n'105 (List.map (fun n => [AV.int IntKind.i64 n]) ps111).length
        (List.take (([] ++ List.take on115.length (List.drop (0 : Nat) on115)).length + (1 : Nat))
          (List.drop (0 : Nat)
            ([] ++ List.take on115.length (List.drop (0 : Nat) on115) ++ [[AV.int IntKind.i64 (0 : Int)]])))
        dr116 er117 [] k121 a122 f123 t124 ac119 dv120 z125),
  []))))))))))))))))
     (br (s_rem wh (10 : Int) == (2 : Int))
      (chk ((0 : Int) < (↑on115.length : Int) ∧ (↑on115.length : Int) < (9223372036854775808 : Int)) (chk ((0 : Int) ≤ s_rem (IntKind.i64.wrap (num.tdiv (16 : Int))) (4 : Int) ∧
  s_rem (IntKind.i64.wrap (num.tdiv (16 : Int))) (4 : Int) < (4 : Int)) (chk ((0 : Nat) + (s_rem (IntKind.i64.wrap (num.tdiv (16 : Int))) (4 : Int)).toNat < (4 : Nat)) (chk ((0 : Int) ≤ s_rem num (↑on115.length : Int) ∧ s_rem num (↑on115.length : Int) < (↑on115.length : Int)) (chk ((0 : Nat) + (s_rem num (↑on115.length : Int)).toNat < on115.length) (chk ((0 : Nat) + on115.length ≤
  (on115.set ((0 : Nat) + (s_rem num (↑on115.length : Int)).toNat)
      (AV.int IntKind.i64
          (([[AV.int IntKind.i64 (-2 : Int)], [AV.int IntKind.i64 (-1 : Int)], [AV.int IntKind.i64 (200 : Int)],
                      [AV.int IntKind.i64 (201 : Int)]].getD
                  ((0 : Nat) + (s_rem (IntKind.i64.wrap (num.tdiv (16 : Int))) (4 : Int)).toNat) []).getD
              (0 : Nat) AV.gone).toI ::
        List.drop ((0 : Nat) + (1 : Nat)) (on115.getD ((0 : Nat) + (s_rem num (↑on115.length : Int)).toNat) []))).length) (chk ((0 : Nat) + on115.length ≤
  (on115.set ((0 : Nat) + (s_rem num (↑on115.length : Int)).toNat)
      (AV.int IntKind.i64
          (([[AV.int IntKind.i64 (-2 : Int)], [AV.int IntKind.i64 (-1 : Int)], [AV.int IntKind.i64 (200 : Int)],
                      [AV.int IntKind.i64 (201 : Int)]].getD
                  ((0 : Nat) + (s_rem (IntKind.i64.wrap (num.tdiv (16 : Int))) (4 : Int)).toNat) []).getD
              (0 : Nat) AV.gone).toI ::
        List.drop ((0 : Nat) + (1 : Nat)) (on115.getD ((0 : Nat) + (s_rem num (↑on115.length : Int)).toNat) []))).length) (((Hyp ((0 : Int) ≤ n'105 ∧
  n'105 ≤ (1000000 : Int) ∧
    (List.take on115.length
            (List.drop (0 : Nat)
              (on115.set ((0 : Nat) + (s_rem num (↑on115.length : Int)).toNat)
                (AV.int IntKind.i64
                    (([[AV.int IntKind.i64 (-2 : Int)], [AV.int IntKind.i64 (-1 : Int)],
                                [AV.int IntKind.i64 (200 : Int)], [AV.int IntKind.i64 (201 : Int)]].getD
                            ((0 : Nat) + (s_rem (IntKind.i64.wrap (num.tdiv (16 : Int))) (4 : Int)).toNat) []).getD
                        (0 : Nat) AV.gone).toI ::
                  List.drop ((0 : Nat) + (1 : Nat))
                    (on115.getD ((0 : Nat) + (s_rem num (↑on115.length : Int)).toNat) []))))).length ≤
        (9223372036854775807 : Nat) ∧
      (0 : Nat) ≤ (9223372036854775807 : Nat) ∧ ac119.length ≤ (9223372036854775807 : Nat))) ∧
      (chk ((0 : Nat) + on115.length ≤
  (on115.set ((0 : Nat) + (s_rem num (↑on115.length : Int)).toNat)
      (AV.int IntKind.i64
          (([[AV.int IntKind.i64 (-2 : Int)], [AV.int IntKind.i64 (-1 : Int)], [AV.int IntKind.i64 (200 : Int)],
                      [AV.int IntKind.i64 (201 : Int)]].getD
                  ((0 : Nat) + (s_rem (IntKind.i64.wrap (num.tdiv (16 : Int))) (4 : Int)).toNat) []).getD
              (0 : Nat) AV.gone).toI ::
        List.drop ((0 : Nat) + (1 : Nat)) (on115.getD ((0 : Nat) + (s_rem num (↑on115.length : Int)).toNat) []))).length) (((Hyp ((0 : Int) ≤ n'105 ∧
  n'105 ≤ (1000000 : Int) ∧
    (List.take on115.length
            (List.drop (0 : Nat)
              (on115.set ((0 : Nat) + (s_rem num (↑on115.length : Int)).toNat)
                (AV.int IntKind.i64
                    (([[AV.int IntKind.i64 (-2 : Int)], [AV.int IntKind.i64 (-1 : Int)],
                                [AV.int IntKind.i64 (200 : Int)], [AV.int IntKind.i64 (201 : Int)]].getD
                            ((0 : Nat) + (s_rem (IntKind.i64.wrap (num.tdiv (16 : Int))) (4 : Int)).toNat) []).getD
                        (0 : Nat) AV.gone).toI ::
                  List.drop ((0 : Nat) + (1 : Nat))
                    (on115.getD ((0 : Nat) + (s_rem num (↑on115.length : Int)).toNat) []))))).length ≤
        (9223372036854775807 : Nat) ∧
      (0 : Nat) ≤ (9223372036854775807 : Nat) ∧ ac119.length ≤ (9223372036854775807 : Nat))) ∧
      (Q ((AV.bool
    (s_scheck n'105 (List.map (fun n => [AV.int IntKind.i64 n]) ps111).length
        (List.take on115.length
          (List.drop (0 : Nat)
            (on115.set ((0 : Nat) + (s_rem num (↑on115.length : Int)).toNat)
              (AV.int IntKind.i64
                  (([[AV.int IntKind.i64 (-2 : Int)], [AV.int IntKind.i64 (-1 : Int)], [AV.int IntKind.i64 (200 : Int)],
                              [AV.int IntKind.i64 (201 : Int)]].getD
                          ((0 : Nat) + (s_rem (IntKind.i64.wrap (num.tdiv (16 : Int))) (4 : Int)).toNat) []).getD
                      (0 : Nat) AV.gone).toI ::
                List.drop ((0 : Nat) + (1 : Nat))
                  (on115.getD ((0 : Nat) + (s_rem num (↑on115.length : Int)).toNat) [])))))
        dr116 er117 [] k121 a122 f123 t124 ac119 dv120 z125 ==
      s_scheck n'105 (List.map (fun n => [AV.int IntKind.i64 n]) ps111).length
        (List.take on115.length
          (List.drop (0 : Nat)
            (on115.set ((0 : Nat) + (s_rem num (↑on115.length : Int)).toNat)
              (AV.int IntKind.i64
                  (([[AV.int IntKind.i64 (-2 : Int)], [AV.int IntKind.i64 (-1 : Int)], [AV.int IntKind.i64 (200 : Int)],
                              [AV.int IntKind.i64 (201 : Int)]].getD
                          ((0 : Nat) + (s_rem (IntKind.i64.wrap (num.tdiv (16 : Int))) (4 : Int)).toNat) []).getD
                      (0 : Nat) AV.gone).toI ::
                List.drop ((0 : Nat) + (1 : Nat))
                  (on115.getD ((0 : Nat) + (s_rem num (↑on115.length : Int)).toNat) [])))))
        dr116 er117 [] k121 a122 f123 t124 ac119 dv120 z125),
  [])))))))))))))))
      (br (s_rem wh (10 : Int) == (3 : Int))
       (chk ((0 : Int) ≤ IntKind.i64.wrap ((59 : Int) + s_rem num (3 : Int)) ∧
  IntKind.i64.wrap ((59 : Int) + s_rem num (3 : Int)) ≤ IntKind.i64.wrap ((59 : Int) + s_rem num (3 : Int)) ∧
    (8 : Int) * IntKind.i64.wrap ((59 : Int) + s_rem num (3 : Int)) ≤ (140737488355328 : Int)) (chk (IntKind.i64.wrap ((59 : Int) + s_rem num (3 : Int)) ≤ (9223372036854775807 : Int)) (chk ((0 : Nat) + on115.length ≤ on115.length) (chk ((0 : Nat) + (IntKind.i64.wrap ((59 : Int) + s_rem num (3 : Int))).toNat ≤
  (List.replicate (IntKind.i64.wrap ((59 : Int) + s_rem num (3 : Int))).toNat [AV.int IntKind.i64 (0 : Int)]).length) (chk ((0 : Nat) + on115.length ≤ on115.length) (chk ((0 : Nat) + (IntKind.i64.wrap ((59 : Int) + s_rem num (3 : Int))).toNat ≤
  (List.replicate (IntKind.i64.wrap ((59 : Int) + s_rem num (3 : Int))).toNat [AV.int IntKind.i64 (0 : Int)]).length) (((Hyp ((0 : Int) ≤ n'105 ∧
  n'105 ≤ (1000000 : Int) ∧
    (List.take on115.length (List.drop (0 : Nat) on115)).length ≤ (9223372036854775807 : Nat) ∧
      (0 : Nat) ≤ (9223372036854775807 : Nat) ∧ ac119.length ≤ (9223372036854775807 : Nat))) ∧
       (chk ((0 : Nat) + on115.length ≤ on115.length) (chk ((0 : Nat) + (IntKind.i64.wrap ((59 : Int) + s_rem num (3 : Int))).toNat ≤
  (List.replicate (IntKind.i64.wrap ((59 : Int) + s_rem num (3 : Int))).toNat [AV.int IntKind.i64 (0 : Int)]).length) (((Hyp ((0 : Int) ≤ n'105 ∧
  n'105 ≤ (1000000 : Int) ∧
    (List.take on115.length (List.drop (0 : Nat) on115)).length ≤ (9223372036854775807 : Nat) ∧
      (0 : Nat) ≤ (9223372036854775807 : Nat) ∧ ac119.length ≤ (9223372036854775807 : Nat))) ∧
       (Q ((AV.bool
    (s_scheck n'105 (List.map (fun n => [AV.int IntKind.i64 n]) ps111).length
        (List.take on115.length (List.drop (0 : Nat) on115))
        (List.take (IntKind.i64.wrap ((59 : Int) + s_rem num (3 : Int))).toNat
          (List.drop (0 : Nat)
            (List.replicate (IntKind.i64.wrap ((59 : Int) + s_rem num (3 : Int))).toNat
              [AV.int IntKind.i64 (0 : Int)])))
        er117 [] k121 a122 f123 t124 ac119 dv120 z125 ==
      s_scheck n'105 (List.map (fun n => [AV.int IntKind.i64 n]) ps111).length
        (List.take on115.length (List.drop (0 : Nat) on115))
        (List.take (IntKind.i64.wrap ((59 : Int) + s_rem num (3 : Int))).toNat
          (List.drop (0 : Nat)
            (List.replicate (IntKind.i64.wrap ((59 : Int) + s_rem num (3 : Int))).toNat
              [AV.int IntKind.i64 (0 : Int)])))
        er117 [] k121 a122 f123 t124 ac119 dv120 z125),
  [])))))))))))))))
       (br (s_rem wh (10 : Int) == (4 : Int))
        (chk ((0 : Int) ≤ IntKind.i64.wrap ((59 : Int) + s_rem num (3 : Int)) ∧
  IntKind.i64.wrap ((59 : Int) + s_rem num (3 : Int)) ≤ IntKind.i64.wrap ((59 : Int) + s_rem num (3 : Int)) ∧
    (8 : Int) * IntKind.i64.wrap ((59 : Int) + s_rem num (3 : Int)) ≤ (140737488355328 : Int)) (chk (IntKind.i64.wrap ((59 : Int) + s_rem num (3 : Int)) ≤ (9223372036854775807 : Int)) (chk ((0 : Nat) + on115.length ≤ on115.length) (chk ((0 : Nat) + (IntKind.i64.wrap ((59 : Int) + s_rem num (3 : Int))).toNat ≤
  (List.replicate (IntKind.i64.wrap ((59 : Int) + s_rem num (3 : Int))).toNat [AV.int IntKind.i64 (0 : Int)]).length) (chk ((0 : Nat) + on115.length ≤ on115.length) (chk ((0 : Nat) + (IntKind.i64.wrap ((59 : Int) + s_rem num (3 : Int))).toNat ≤
  (List.replicate (IntKind.i64.wrap ((59 : Int) + s_rem num (3 : Int))).toNat [AV.int IntKind.i64 (0 : Int)]).length) (((Hyp ((0 : Int) ≤ n'105 ∧
  n'105 ≤ (1000000 : Int) ∧
    (List.take on115.length (List.drop (0 : Nat) on115)).length ≤ (9223372036854775807 : Nat) ∧
      (0 : Nat) ≤ (9223372036854775807 : Nat) ∧ ac119.length ≤ (9223372036854775807 : Nat))) ∧
        (chk ((0 : Nat) + on115.length ≤ on115.length) (chk ((0 : Nat) + (IntKind.i64.wrap ((59 : Int) + s_rem num (3 : Int))).toNat ≤
  (List.replicate (IntKind.i64.wrap ((59 : Int) + s_rem num (3 : Int))).toNat [AV.int IntKind.i64 (0 : Int)]).length) (((Hyp ((0 : Int) ≤ n'105 ∧
  n'105 ≤ (1000000 : Int) ∧
    (List.take on115.length (List.drop (0 : Nat) on115)).length ≤ (9223372036854775807 : Nat) ∧
      (0 : Nat) ≤ (9223372036854775807 : Nat) ∧ ac119.length ≤ (9223372036854775807 : Nat))) ∧
        (Q ((AV.bool
    (s_scheck n'105 (List.map (fun n => [AV.int IntKind.i64 n]) ps111).length
        (List.take on115.length (List.drop (0 : Nat) on115)) dr116
        (List.take (IntKind.i64.wrap ((59 : Int) + s_rem num (3 : Int))).toNat
          (List.drop (0 : Nat)
            (List.replicate (IntKind.i64.wrap ((59 : Int) + s_rem num (3 : Int))).toNat
              [AV.int IntKind.i64 (0 : Int)])))
        [] k121 a122 f123 t124 ac119 dv120 z125 ==
      s_scheck n'105 (List.map (fun n => [AV.int IntKind.i64 n]) ps111).length
        (List.take on115.length (List.drop (0 : Nat) on115)) dr116
        (List.take (IntKind.i64.wrap ((59 : Int) + s_rem num (3 : Int))).toNat
          (List.drop (0 : Nat)
            (List.replicate (IntKind.i64.wrap ((59 : Int) + s_rem num (3 : Int))).toNat
              [AV.int IntKind.i64 (0 : Int)])))
        [] k121 a122 f123 t124 ac119 dv120 z125),
  [])))))))))))))))
        (br (s_rem wh (10 : Int) == (5 : Int))
         (chk ((0 : Int) ≤ IntKind.i64.wrap ((99 : Int) + s_rem num (3 : Int)) ∧
  IntKind.i64.wrap ((99 : Int) + s_rem num (3 : Int)) ≤ IntKind.i64.wrap ((99 : Int) + s_rem num (3 : Int)) ∧
    (32 : Int) * IntKind.i64.wrap ((99 : Int) + s_rem num (3 : Int)) ≤ (140737488355328 : Int)) (chk (IntKind.i64.wrap ((99 : Int) + s_rem num (3 : Int)) ≤ (9223372036854775807 : Int)) (chk ((0 : Nat) + on115.length ≤ on115.length) (chk ((0 : Nat) + (IntKind.i64.wrap ((99 : Int) + s_rem num (3 : Int))).toNat ≤
  (List.replicate (IntKind.i64.wrap ((99 : Int) + s_rem num (3 : Int))).toNat
      [AV.int IntKind.i64 (0 : Int), AV.int IntKind.i64 (0 : Int), AV.int IntKind.i64 (0 : Int),
        AV.int IntKind.i64 (0 : Int)]).length) (chk ((0 : Nat) + on115.length ≤ on115.length) (chk ((0 : Nat) + (IntKind.i64.wrap ((99 : Int) + s_rem num (3 : Int))).toNat ≤
  (List.replicate (IntKind.i64.wrap ((99 : Int) + s_rem num (3 : Int))).toNat
      [AV.int IntKind.i64 (0 : Int), AV.int IntKind.i64 (0 : Int), AV.int IntKind.i64 (0 : Int),
        AV.int IntKind.i64 (0 : Int)]).length) (((Hyp ((0 : Int) ≤ n'105 ∧
  n'105 ≤ (1000000 : Int) ∧
    (List.take on115.length (List.drop (0 : Nat) on115)).length ≤ (9223372036854775807 : Nat) ∧
      (List.take (IntKind.i64.wrap ((99 : Int) + s_rem num (3 : Int))).toNat
              (List.drop (0 : Nat)
                (List.replicate (IntKind.i64.wrap ((99 : Int) + s_rem num (3 : Int))).toNat
                  [AV.int IntKind.i64 (0 : Int), AV.int IntKind.i64 (0 : Int), AV.int IntKind.i64 (0 : Int),
                    AV.int IntKind.i64 (0 : Int)]))).length ≤
          (9223372036854775807 : Nat) ∧
        ac119.length ≤ (9223372036854775807 : Nat))) ∧
         (chk ((0 : Nat) + on115.length ≤ on115.length) (chk ((0 : Nat) + (IntKind.i64.wrap ((99 : Int) + s_rem num (3 : Int))).toNat ≤
  (List.replicate (IntKind.i64.wrap ((99 : Int) + s_rem num (3 : Int))).toNat
      [AV.int IntKind.i64 (0 : Int), AV.int IntKind.i64 (0 : Int), AV.int IntKind.i64 (0 : Int),
        AV.int IntKind.i64 (0 : Int)]).length) (((Hyp ((0 : Int) ≤ n'105 ∧
  n'105 ≤ (1000000 : Int) ∧
    (List.take on115.length (List.drop (0 : Nat) on115)).length ≤ (9223372036854775807 : Nat) ∧
      (List.take (IntKind.i64.wrap ((99 : Int) + s_rem num (3 : Int))).toNat
              (List.drop (0 : Nat)
                (List.replicate (IntKind.i64.wrap ((99 : Int) + s_rem num (3 : Int))).toNat
                  [AV.int IntKind.i64 (0 : Int), AV.int IntKind.i64 (0 : Int), AV.int IntKind.i64 (0 : Int),
                    AV.int IntKind.i64 (0 : Int)]))).length ≤
          (9223372036854775807 : Nat) ∧
        ac119.length ≤ (9223372036854775807 : Nat))) ∧
         (Q ((AV.bool
    (s_scheck n'105 (List.map (fun n => [AV.int IntKind.i64 n]) ps111).length
        (List.take on115.length (List.drop (0 : Nat) on115)) dr116 er117
        (List.take (IntKind.i64.wrap ((99 : Int) + s_rem num (3 : Int))).toNat
          (List.drop (0 : Nat)
            (List.replicate (IntKind.i64.wrap ((99 : Int) + s_rem num (3 : Int))).toNat
              [AV.int IntKind.i64 (0 : Int), AV.int IntKind.i64 (0 : Int), AV.int IntKind.i64 (0 : Int),
                AV.int IntKind.i64 (0 : Int)])))
        k121 a122 f123 t124 ac119 dv120 z125 ==
      s_scheck n'105 (List.map (fun n => [AV.int IntKind.i64 n]) ps111).length
        (List.take on115.length (List.drop (0 : Nat) on115)) dr116 er117
        (List.take (IntKind.i64.wrap ((99 : Int) + s_rem num (3 : Int))).toNat
          (List.drop (0 : Nat)
            (List.replicate (IntKind.i64.wrap ((99 : Int) + s_rem num (3 : Int))).toNat
              [AV.int IntKind.i64 (0 : Int), AV.int IntKind.i64 (0 : Int), AV.int IntKind.i64 (0 : Int),
                AV.int IntKind.i64 (0 : Int)])))
        k121 a122 f123 t124 ac119 dv120 z125),
  [])))))))))))))))
         (br (s_rem wh (10 : Int) == (6 : Int))
          (chk ((0 : Int) ≤ s_rem num (4 : Int) ∧ s_rem num (4 : Int) < (4 : Int)) (chk ((0 : Nat) + (s_rem num (4 : Int)).toNat < (4 : Nat)) (chk ((0 : Nat) + on115.length ≤ on115.length) (chk ((0 : Nat) + on115.length ≤ on115.length) (((Hyp ((0 : Int) ≤ n'105 ∧
  n'105 ≤ (1000000 : Int) ∧
    (List.take on115.length (List.drop (0 : Nat) on115)).length ≤ (9223372036854775807 : Nat) ∧
      (1 : Nat) ≤ (9223372036854775807 : Nat) ∧ ac119.length ≤ (9223372036854775807 : Nat))) ∧
          (chk ((0 : Nat) + on115.length ≤ on115.length) (((Hyp ((0 : Int) ≤ n'105 ∧
  n'105 ≤ (1000000 : Int) ∧
    (List.take on115.length (List.drop (0 : Nat) on115)).length ≤ (9223372036854775807 : Nat) ∧
      (1 : Nat) ≤ (9223372036854775807 : Nat) ∧ ac119.length ≤ (9223372036854775807 : Nat))) ∧
          (Q ((AV.bool
    (s_scheck n'105 (List.map (fun n => [AV.int IntKind.i64 n]) ps111).length
        (List.take on115.length (List.drop (0 : Nat) on115)) dr116 er117
        [[AV.int IntKind.i64
              (([[AV.int IntKind.i64 (-1 : Int)], [AV.int IntKind.i64 (200 : Int)], [AV.int IntKind.i64 (201 : Int)],
                          [AV.int IntKind.i64 num]].getD
                      ((0 : Nat) + (s_rem num (4 : Int)).toNat) []).getD
                  (0 : Nat) AV.gone).toI,
            AV.int IntKind.i64 (0 : Int), AV.int IntKind.i64 (0 : Int), AV.int IntKind.i64 (0 : Int)]]
        k121 a122 f123 t124 ac119 dv120 z125 ==
      s_scheck n'105 (List.map (fun n => [AV.int IntKind.i64 n]) ps111).length
        (List.take on115.length (List.drop (0 : Nat) on115)) dr116 er117
        [[AV.int IntKind.i64
              (([[AV.int IntKind.i64 (-1 : Int)], [AV.int IntKind.i64 (200 : Int)], [AV.int IntKind.i64 (201 : Int)],
                          [AV.int IntKind.i64 num]].getD
                      ((0 : Nat) + (s_rem num (4 : Int)).toNat) []).getD
                  (0 : Nat) AV.gone).toI,
            AV.int IntKind.i64 (0 : Int), AV.int IntKind.i64 (0 : Int), AV.int IntKind.i64 (0 : Int)]]
        k121 a122 f123 t124 ac119 dv120 z125),
  []))))))))))))
          (br (s_rem wh (10 : Int) == (7 : Int))
           (chk ((0 : Int) ≤ s_rem num (4 : Int) ∧ s_rem num (4 : Int) < (4 : Int)) (chk ((0 : Nat) + (s_rem num (4 : Int)).toNat < (4 : Nat)) (chk ((0 : Nat) + on115.length ≤ on115.length) (chk ((0 : Nat) + on115.length ≤ on115.length) (((Hyp ((0 : Int) ≤ n'105 ∧
  n'105 ≤ (1000000 : Int) ∧
    (List.take on115.length (List.drop (0 : Nat) on115)).length ≤ (9223372036854775807 : Nat) ∧
      (1 : Nat) ≤ (9223372036854775807 : Nat) ∧ ac119.length ≤ (9223372036854775807 : Nat))) ∧
           (chk ((0 : Nat) + on115.length ≤ on115.length) (((Hyp ((0 : Int) ≤ n'105 ∧
  n'105 ≤ (1000000 : Int) ∧
    (List.take on115.length (List.drop (0 : Nat) on115)).length ≤ (9223372036854775807 : Nat) ∧
      (1 : Nat) ≤ (9223372036854775807 : Nat) ∧ ac119.length ≤ (9223372036854775807 : Nat))) ∧
           (Q ((AV.bool
    (s_scheck n'105 (List.map (fun n => [AV.int IntKind.i64 n]) ps111).length
        (List.take on115.length (List.drop (0 : Nat) on115)) dr116 er117
        [[AV.int IntKind.i64 (0 : Int),
            AV.int IntKind.i64
              (([[AV.int IntKind.i64 (-1 : Int)], [AV.int IntKind.i64 (IntKind.i64.wrap (n'105 - (1 : Int)))],
                          [AV.int IntKind.i64 n'105], [AV.int IntKind.i64 num]].getD
                      ((0 : Nat) + (s_rem num (4 : Int)).toNat) []).getD
                  (0 : Nat) AV.gone).toI,
            AV.int IntKind.i64 (0 : Int), AV.int IntKind.i64 (0 : Int)]]
        k121 a122 f123 t124 ac119 dv120 z125 ==
      s_scheck n'105 (List.map (fun n => [AV.int IntKind.i64 n]) ps111).length
        (List.take on115.length (List.drop (0 : Nat) on115)) dr116 er117
        [[AV.int IntKind.i64 (0 : Int),
            AV.int IntKind.i64
              (([[AV.int IntKind.i64 (-1 : Int)], [AV.int IntKind.i64 (IntKind.i64.wrap (n'105 - (1 : Int)))],
                          [AV.int IntKind.i64 n'105], [AV.int IntKind.i64 num]].getD
                      ((0 : Nat) + (s_rem num (4 : Int)).toNat) []).getD
                  (0 : Nat) AV.gone).toI,
            AV.int IntKind.i64 (0 : Int), AV.int IntKind.i64 (0 : Int)]]
        k121 a122 f123 t124 ac119 dv120 z125),
  []))))))))))))
           (br (s_rem wh (10 : Int) == (8 : Int))
            (chk ((0 : Int) ≤ s_rem num (4 : Int) ∧ s_rem num (4 : Int) < (4 : Int)) (chk ((0 : Nat) + (s_rem num (4 : Int)).toNat < (4 : Nat)) (chk ((0 : Nat) + on115.length ≤ on115.length) (chk ((0 : Nat) + on115.length ≤ on115.length) (((Hyp ((0 : Int) ≤ n'105 ∧
  n'105 ≤ (1000000 : Int) ∧
    (List.take on115.length (List.drop (0 : Nat) on115)).length ≤ (9223372036854775807 : Nat) ∧
      (1 : Nat) ≤ (9223372036854775807 : Nat) ∧ ac119.length ≤ (9223372036854775807 : Nat))) ∧
            (chk ((0 : Nat) + on115.length ≤ on115.length) (((Hyp ((0 : Int) ≤ n'105 ∧
  n'105 ≤ (1000000 : Int) ∧
    (List.take on115.length (List.drop (0 : Nat) on115)).length ≤ (9223372036854775807 : Nat) ∧
      (1 : Nat) ≤ (9223372036854775807 : Nat) ∧ ac119.length ≤ (9223372036854775807 : Nat))) ∧
            (Q ((AV.bool
    (s_scheck n'105 (List.map (fun n => [AV.int IntKind.i64 n]) ps111).length
        (List.take on115.length (List.drop (0 : Nat) on115)) dr116 er117
        [[AV.int IntKind.i64 (0 : Int), AV.int IntKind.i64 (0 : Int),
            AV.int IntKind.i64
              (([[AV.int IntKind.i64 (-1 : Int)],
                          [AV.int IntKind.i64 (↑(List.map (fun n => [AV.int IntKind.i64 n]) ps111).length : Int)],
                          [AV.int IntKind.i64
                              (IntKind.i64.wrap
                                ((↑(List.map (fun n => [AV.int IntKind.i64 n]) ps111).length : Int) + (1 : Int)))],
                          [AV.int IntKind.i64 num]].getD
                      ((0 : Nat) + (s_rem num (4 : Int)).toNat) []).getD
                  (0 : Nat) AV.gone).toI,
            AV.int IntKind.i64 num]]
        k121 a122 f123 t124 ac119 dv120 z125 ==
      s_scheck n'105 (List.map (fun n => [AV.int IntKind.i64 n]) ps111).length
        (List.take on115.length (List.drop (0 : Nat) on115)) dr116 er117
        [[AV.int IntKind.i64 (0 : Int), AV.int IntKind.i64 (0 : Int),
            AV.int IntKind.i64
              (([[AV.int IntKind.i64 (-1 : Int)],
                          [AV.int IntKind.i64 (↑(List.map (fun n => [AV.int IntKind.i64 n]) ps111).length : Int)],
                          [AV.int IntKind.i64
                              (IntKind.i64.wrap
                                ((↑(List.map (fun n => [AV.int IntKind.i64 n]) ps111).length : Int) + (1 : Int)))],
                          [AV.int IntKind.i64 num]].getD
                      ((0 : Nat) + (s_rem num (4 : Int)).toNat) []).getD
                  (0 : Nat) AV.gone).toI,
            AV.int IntKind.i64 num]]
        k121 a122 f123 t124 ac119 dv120 z125),
  []))))))))))))
            (br (s_rem wh (10 : Int) == (9 : Int))
             (chk ((0 : Nat) + on115.length ≤ on115.length) (chk ((0 : Nat) + on115.length ≤ on115.length) (((Hyp ((0 : Int) ≤ n'105 ∧
  n'105 ≤ (1000000 : Int) ∧
    (List.take on115.length (List.drop (0 : Nat) on115)).length ≤ (9223372036854775807 : Nat) ∧
      (0 : Nat) ≤ (9223372036854775807 : Nat) ∧ r4.length ≤ (9223372036854775807 : Nat))) ∧
             (chk ((0 : Nat) + on115.length ≤ on115.length) (((Hyp ((0 : Int) ≤ n'105 ∧
  n'105 ≤ (1000000 : Int) ∧
    (List.take on115.length (List.drop (0 : Nat) on115)).length ≤ (9223372036854775807 : Nat) ∧
      (0 : Nat) ≤ (9223372036854775807 : Nat) ∧ r4.length ≤ (9223372036854775807 : Nat))) ∧
             (Q ((AV.bool
    (s_scheck n'105 (List.map (fun n => [AV.int IntKind.i64 n]) ps111).length
        (List.take on115.length (List.drop (0 : Nat) on115)) dr116 er117 [] k a f t r4 r5 z125 ==
      s_scheck n'105 (List.map (fun n => [AV.int IntKind.i64 n]) ps111).length
        (List.take on115.length (List.drop (0 : Nat) on115)) dr116 er117 [] k a f t r4 r5 z125),
  []))))))))))
             (chk ((0 : Nat) + on115.length ≤ on115.length) (chk ((0 : Nat) + on115.length ≤ on115.length) (((Hyp ((0 : Int) ≤ n'105 ∧
  n'105 ≤ (1000000 : Int) ∧
    (List.take on115.length (List.drop (0 : Nat) on115)).length ≤ (9223372036854775807 : Nat) ∧
      (0 : Nat) ≤ (9223372036854775807 : Nat) ∧ ac119.length ≤ (9223372036854775807 : Nat))) ∧
             (chk ((0 : Nat) + on115.length ≤ on115.length) (((Hyp ((0 : Int) ≤ n'105 ∧
  n'105 ≤ (1000000 : Int) ∧
    (List.take on115.length (List.drop (0 : Nat) on115)).length ≤ (9223372036854775807 : Nat) ∧
      (0 : Nat) ≤ (9223372036854775807 : Nat) ∧ ac119.length ≤ (9223372036854775807 : Nat))) ∧
             (Q ((AV.bool
    (s_scheck n'105 (List.map (fun n => [AV.int IntKind.i64 n]) ps111).length
        (List.take on115.length (List.drop (0 : Nat) on115)) dr116 er117 [] k121 a122 f123 t124 ac119 dv120 z125 ==
      s_scheck n'105 (List.map (fun n => [AV.int IntKind.i64 n]) ps111).length
        (List.take on115.length (List.drop (0 : Nat) on115)) dr116 er117 [] k121 a122 f123 t124 ac119 dv120 z125),
  [])))))))))))))))))))))))))) ∧
  (((Hyp ((0 : Int) ≤ n'105 ∧
  n'105 ≤ (1000000 : Int) ∧
    r0.length ≤ (9223372036854775807 : Nat) ∧
      r3.length ≤ (9223372036854775807 : Nat) ∧ r4.length ≤ (9223372036854775807 : Nat))) ∧
  (((Hyp ((0 : Int) ≤ n'105 ∧
  n'105 ≤ (1000000 : Int) ∧
    r0.length ≤ (9223372036854775807 : Nat) ∧
      r3.length ≤ (9223372036854775807 : Nat) ∧ r4.length ≤ (9223372036854775807 : Nat))) ∧
  (br (s_scheck n'105 (List.map (fun n => [AV.int IntKind.i64 n]) ps111).length r0 r1 r2 r3 k a f t r4 r5 z !=
  s_scheck n'105 (List.map (fun n => [AV.int IntKind.i64 n]) ps111).length r0 r1 r2 r3 k a f t r4 r5 z)
   (Q ((AV.bool false, [])))
   (br (s_rem wh (10 : Int) == (0 : Int))
    (chk ((0 : Int) ≤ s_rem num (4 : Int) ∧ s_rem num (4 : Int) < (4 : Int)) (chk ((0 : Nat) + (s_rem num (4 : Int)).toNat < (4 : Nat)) (chk ((0 : Nat) + on115.length ≤ on115.length) (chk ((0 : Nat) + ca118.length ≤ ca118.length) (chk ((0 : Nat) + on115.length ≤ on115.length) (chk ((0 : Nat) + ca118.length ≤ ca118.length) (((Hyp ((0 : Int) ≤ n'105 ∧
  n'105 ≤ (1000000 : Int) ∧
    (List.take on115.length (List.drop (0 : Nat) on115)).length ≤ (9223372036854775807 : Nat) ∧
      (List.take ca118.length (List.drop (0 : Nat) ca118)).length ≤ (9223372036854775807 : Nat) ∧
        ac119.length ≤ (9223372036854775807 : Nat))) ∧
    (chk ((0 : Nat) + on115.length ≤ on115.length) (chk ((0 : Nat) + ca118.length ≤ ca118.length) (((Hyp ((0 : Int) ≤ n'105 ∧
  n'105 ≤ (1000000 : Int) ∧
    (List.take on115.length (List.drop (0 : Nat) on115)).length ≤ (9223372036854775807 : Nat) ∧
      (List.take ca118.length (List.drop (0 : Nat) ca118)).length ≤ (9223372036854775807 : Nat) ∧
        ac119.length ≤ (9223372036854775807 : Nat))) ∧
    (Q ((AV.bool
    (s_scheck n'105 (List.map (fun n => [AV.int IntKind.i64 n]) ps111).length
        (List.take on115.length (List.drop (0 : Nat) on115)) dr116 er117
        (List.take ca118.length (List.drop (0 : Nat) ca118)) k121 a122 f123 t124 ac119 dv120
        (([[AV.int IntKind.i64 (-1 : Int)], [AV.int IntKind.i64 (200 : Int)], [AV.int IntKind.i64 (201 : Int)],
                    [AV.int IntKind.i64 num]].getD
                ((0 : Nat) + (s_rem num (4 : Int)).toNat) []).getD
            (0 : Nat) AV.gone).toI ==
      s_scheck n'105 (List.map (fun n => [AV.int IntKind.i64 n]) ps111).length
        (List.take on115.length (List.drop (0 : Nat) on115)) dr116 er117
        (List.take ca118.length (List.drop (0 : Nat) ca118)) k121 a122 f123 t124 ac119 dv120
        (([[AV.int IntKind.i64 (-1 : Int)], [AV.int IntKind.i64 (200 : Int)], [AV.int IntKind.i64 (201 : Int)],
                    [AV.int IntKind.i64 num]].getD
                ((0 : Nat) + (s_rem num (4 : Int)).toNat) []).getD
            (0 : Nat) AV.gone).toI),
  [])))))))))))))))
    (br (s_rem wh (10 : Int) == (1 : Int))
     (chk ((0 : Nat) + on115.length ≤ on115.length) (chk (((0 : Nat) + (List.take on115.length (List.drop (0 : Nat) on115)).length) * (8 : Nat) ≤ (140737488355328 : Nat)) (chk ((0 : Nat) + (List.take on115.length (List.drop (0 : Nat) on115)).length ≤ (9223372036854775807 : Nat)) (chk ((0 : Nat) + (List.take on115.length (List.drop (0 : Nat) on115)).length =
  ([] ++ List.take on115.length (List.drop (0 : Nat) on115)).length) (chk ((([] ++ List.take on115.length (List.drop (0 : Nat) on115)).length + (1 : Nat)) * (8 : Nat) ≤ (140737488355328 : Nat)) (chk (([] ++ List.take on115.length (List.drop (0 : Nat) on115)).length + (1 : Nat) ≤ (9223372036854775807 : Nat)) (chk ((0 : Nat) + (([] ++ List.take on115.length (List.drop (0 : Nat) on115)).length + (1 : Nat)) ≤
  ([] ++ List.take on115.length (List.drop (0 : Nat) on115) ++ [[AV.int IntKind.i64 (0 : Int)]]).length) (chk ((0 : Nat) + ca118.length ≤ ca118.length) (chk ((0 : Nat) + (([] ++ List.take on115.length (List.drop (0 : Nat) on115)).length + (1 : Nat)) ≤
  ([] ++ List.take on115.length (List.drop (0 : Nat) on115) ++ [[AV.int IntKind.i64 (0 : Int)]]).length) (chk ((0 : Nat) + ca118.length ≤ ca118.length) (((Hyp ((0 : Int) ≤ n'105 ∧
  n'105 ≤ (1000000 : Int) ∧
    (List.take (([] ++ List.take on115.length (List.drop (0 : Nat) on115)).length + (1 : Nat))
            (List.drop (0 : Nat)
              ([] ++ List.take on115.length (List.drop (0 : Nat) on115) ++ [[AV.int IntKind.i64 (0 : Int)]]))).length ≤
        (9223372036854775807 : Nat) ∧
      (List.take ca118.length (List.drop (0 : Nat) ca118)).length ≤ (9223372036854775807 : Nat) ∧
        ac119.length ≤ (9223372036854775807 : Nat))) ∧
     (chk ((0 : Nat) + (([] ++ List.take on115.length (List.drop (0 : Nat) on115)).length + (1 : Nat)) ≤
  ([] ++ List.take on115.length (List.drop (0 : Nat) on115) ++ [[AV.int IntKind.i64 (0 : Int)]]).length) (chk ((0 : Nat) + ca118.length ≤ ca118.length) (((Hyp ((0 : Int) ≤ n'105 ∧
  n'105 ≤ (1000000 : Int) ∧
    (List.take (([] ++ List.take on115.length (List.drop (0 : Nat) on115)).length + (1 : Nat))
            (List.drop (0 : Nat)
              ([] ++ List.take on115.length (List.drop (0 : Nat) on115) ++ [[AV.int IntKind.i64 (0 : Int)]]))).length ≤
        (9223372036854775807 : Nat) ∧
      (List.take ca118.length (List.drop (0 : Nat) ca118)).length ≤ (9223372036854775807 : Nat) ∧
        ac119.length ≤ (9223372036854775807 : Nat))) ∧
     (Q ((AV.bool
    (s_scheck n'105 (List.map (fun n => [AV.int IntKind.i64 n]) ps111).length
        (List.take (([] ++ List.take on115.length (List.drop (0 : Nat) on115)).length + (1 : Nat))
          (List.drop (0 : Nat)
            ([] ++ List.take on115.length (List.drop (0 : Nat) on115) ++ [[AV.int IntKind.i64 (0 : Int)]])))
        dr116 er117 (List.take ca118.length (List.drop (0 : Nat) ca118)) k121 a122 f123 t124 ac119 dv120 z125 ==
      s_scheck n'105 (List.map (fun n => [AV.int IntKind.i64 n]) ps111).length
        (List.take (([] ++ List.take on115.length (List.drop (0 : Nat) on115)).length + (1 : Nat))
          (List.drop (0 : Nat)
            ([] ++ List.take on115.length (List.drop (0 : Nat) on115) ++ [[AV.int IntKind.i64 (0 : Int)]])))
        dr116 er117 (List.take ca118.length (List.drop (0 : Nat) ca118)) k121 a122 f123 t124 ac119 dv120 z125),
  [])))))))))))))))))))
     (br (s_rem wh (10 : Int) == (2 : Int))
      (chk ((0 : Int) < (↑on115.length : Int) ∧ (↑on115.length : Int) < (9223372036854775808 : Int)) (chk ((0 : Int) ≤ s_rem (IntKind.i64.wrap (num.tdiv (16 : Int))) (4 : Int) ∧
  s_rem (IntKind.i64.wrap (num.tdiv (16 : Int))) (4 : Int) < (4 : Int)) (chk ((0 : Nat) + (s_rem (IntKind.i64.wrap (num.tdiv (16 : Int))) (4 : Int)).toNat < (4 : Nat)) (chk ((0 : Int) ≤ s_rem num (↑on115.length : Int) ∧ s_rem num (↑on115.length : Int) < (↑on115.length : Int)) (chk ((0 : Nat) + (s_rem num (↑on115.length : Int)).toNat < on115.length) (chk ((0 : Nat) + on115.length ≤
  (on115.set ((0 : Nat) + (s_rem num (↑on115.length : Int)).toNat)
      (AV.int IntKind.i64
          (([[AV.int IntKind.i64 (-2 : Int)], [AV.int IntKind.i64 (-1 : Int)], [AV.int IntKind.i64 (200 : Int)],
                      [AV.int IntKind.i64 (201 : Int)]].getD
                  ((0 : Nat) + (s_rem (IntKind.i64.wrap (num.tdiv (16 : Int))) (4 : Int)).toNat) []).getD
              (0 : Nat) AV.gone).toI ::
        List.drop ((0 : Nat) + (1 : Nat)) (on115.getD ((0 : Nat) + (s_rem num (↑on115.length : Int)).toNat) []))).length) (chk ((0 : Nat) + ca118.length ≤ ca118.length) (chk ((0 : Nat) + on115.length ≤
  (on115.set ((0 : Nat) + (s_rem num (↑on115.length : Int)).toNat)
      (AV.int IntKind.i64
          (([[AV.int IntKind.i64 (-2 : Int)], [AV.int IntKind.i64 (-1 : Int)], [AV.int IntKind.i64 (200 : Int)],
                      [AV.int IntKind.i64 (201 : Int)]].getD
                  ((0 : Nat) + (s_rem (IntKind.i64.wrap (num.tdiv (16 : Int))) (4 : Int)).toNat) []).getD
              (0 : Nat) AV.gone).toI ::
        List.drop ((0 : Nat) + (1 : Nat)) (on115.getD ((0 : Nat) + (s_rem num (↑on115.length : Int)).toNat) []))).length) (chk ((0 : Nat) + ca118.length ≤ ca118.length) (((Hyp ((0 : Int) ≤ n'105 ∧
  n'105 ≤ (1000000 : Int) ∧
    (List.take on115.length
            (List.drop (0 : Nat)
              (on115.set ((0 : Nat) + (s_rem num (↑on115.length : Int)).toNat)
                (AV.int IntKind.i64
                    (([[AV.int IntKind.i64 (-2 : Int)], [AV.int IntKind.i64 (-1 : Int)],
                                [AV.int IntKind.i64 (200 : Int)], [AV.int IntKind.i64 (201 : Int)]].getD
                            ((0 : Nat) + (s_rem (IntKind.i64.wrap (num.tdiv (16 : Int))) (4 : Int)).toNat) []).getD
                        (0 : Nat) AV.gone).toI ::
                  List.drop ((0 : Nat) + (1 : Nat))
                    (on115.getD ((0 : Nat) + (s_rem num (↑on115.length : Int)).toNat) []))))).length ≤
        (9223372036854775807 : Nat) ∧
      (List.take ca118.length (List.drop (0 : Nat) ca118)).length ≤ (9223372036854775807 : Nat) ∧
        ac119.length ≤ (9223372036854775807 : Nat))) ∧
      (chk ((0 : Nat) + on115.length ≤
  (on115.set ((0 : Nat) + (s_rem num (↑on115.length : Int)).toNat)
      (AV.int IntKind.i64
          (([[AV.int IntKind.i64 (-2 : Int)], [AV.int IntKind.i64 (-1 : Int)], [AV.int IntKind.i64 (200 : Int)],
                      [AV.int IntKind.i64 (201 : Int)]].getD
                  ((0 : Nat) + (s_rem (IntKind.i64.wrap (num.tdiv (16 : Int))) (4 : Int)).toNat) []).getD
              (0 : Nat) AV.gone).toI ::
        List.drop ((0 : Nat) + (1 : Nat)) (on115.getD ((0 : Nat) + (s_rem num (↑on115.length : Int)).toNat) []))).length) (chk ((0 : Nat) + ca118.length ≤ ca118.length) (((Hyp ((0 : Int) ≤ n'105 ∧
  n'105 ≤ (1000000 : Int) ∧
    (List.take on115.length
            (List.drop (0 : Nat)
              (on115.set ((0 : Nat) + (s_rem num (↑on115.length : Int)).toNat)
                (AV.int IntKind.i64
                    (([[AV.int IntKind.i64 (-2 : Int)], [AV.int IntKind.i64 (-1 : Int)],
                                [AV.int IntKind.i64 (200 : Int)], [AV.int IntKind.i64 (201 : Int)]].getD
                            ((0 : Nat) + (s_rem (IntKind.i64.wrap (num.tdiv (16 : Int))) (4 : Int)).toNat) []).getD
                        (0 : Nat) AV.gone).toI ::
                  List.drop ((0 : Nat) + (1 : Nat))
                    (on115.getD ((0 : Nat) + (s_rem num (↑on115.length : Int)).toNat) []))))).length ≤
        (9223372036854775807 : Nat) ∧
      (List.take ca118.length (List.drop (0 : Nat) ca118)).length ≤ (9223372036854775807 : Nat) ∧
        ac119.length ≤ (9223372036854775807 : Nat))) ∧
      (Q ((AV.bool
    (s_scheck n'105 (List.map (fun n => [AV.int IntKind.i64 n]) ps111).length
        (List.take on115.length
          (List.drop (0 : Nat)
            (on115.set ((0 : Nat) + (s_rem num (↑on115.length : Int)).toNat)
              (AV.int IntKind.i64
                  (([[AV.int IntKind.i64 (-2 : Int)], [AV.int IntKind.i64 (-1 : Int)], [AV.int IntKind.i64 (200 : Int)],
                              [AV.int IntKind.i64 (201 : Int)]].getD
                          ((0 : Nat) + (s_rem (IntKind.i64.wrap (num.tdiv (16 : Int))) (4 : Int)).toNat) []).getD
                      (0 : Nat) AV.gone).toI ::
                List.drop ((0 : Nat) + (1 : Nat))
                  (on115.getD ((0 : Nat) + (s_rem num (↑on115.length : Int)).toNat) [])))))
        dr116 er117 (List.take ca118.length (List.drop (0 : Nat) ca118)) k121 a122 f123 t124 ac119 dv120 z125 ==
      s_scheck n'105 (List.map (fun n => [AV.int IntKind.i64 n]) ps111).length
        (List.take on115.length
          (List.drop (0 : Nat)
            (on115.set ((0 : Nat) + (s_rem num (↑on115.length : Int)).toNat)
              (AV.int IntKind.i64
                  (([[AV.int IntKind.i64 (-2 : Int)], [AV.int IntKind.i64 (-1 : Int)], [AV.int IntKind.i64 (200 : Int)],
                              [AV.int IntKind.i64 (201 : Int)]].getD
                          ((0 : Nat) + (s_rem (IntKind.i64.wrap (num.tdiv (16 : Int))) (4 : Int)).toNat) []).getD
                      (0 : Nat) AV.gone).toI ::
                List.drop ((0 : Nat) + (1 : Nat))
                  (on115.getD ((0 : Nat) + (s_rem num (↑on115.length : Int)).toNat) [])))))
        dr116 er117 (List.take ca118.length (List.drop (0 : Nat) ca118)) k121 a122 f123 t124 ac119 dv120 z125),
  []))))))))))))))))))
      (br (s_rem wh (10 : Int) == (3 : Int))
       (chk ((0 : Int) ≤ IntKind.i64.wrap ((59 : Int) + s_rem num (3 : Int)) ∧
  IntKind.i64.wrap ((59 : Int) + s_rem num (3 : Int)) ≤ IntKind.i64.wrap ((59 : Int) + s_rem num (3 : Int)) ∧
    (8 : Int) * IntKind.i64.wrap ((59 : Int) + s_rem num (3 : Int)) ≤ (140737488355328 : Int)) (chk (IntKind.i64.wrap ((59 : Int) + s_rem num (3 : Int)) ≤ (9223372036854775807 : Int)) (chk ((0 : Nat) + on115.length ≤ on115.length) (chk ((0 : Nat) + (IntKind.i64.wrap ((59 : Int) + s_rem num (3 : Int))).toNat ≤
  (List.replicate (IntKind.i64.wrap ((59 : Int) + s_rem num (3 : Int))).toNat [AV.int IntKind.i64 (0 : Int)]).length) (chk ((0 : Nat) + ca118.length ≤ ca118.length) (chk ((0 : Nat) + on115.length ≤ on115.length) (chk ((0 : Nat) + (IntKind.i64.wrap ((59 : Int) + s_rem num (3 : Int))).toNat ≤
  (List.replicate (IntKind.i64.wrap ((59 : Int) + s_rem num (3 : Int))).toNat [AV.int IntKind.i64 (0 : Int)]).length) (chk ((0 : Nat) + ca118.length ≤ ca118.length) (((Hyp ((0 : Int) ≤ n'105 ∧
  n'105 ≤ (1000000 : Int) ∧
    (List.take on115.length (List.drop (0 : Nat) on115)).length ≤ (9223372036854775807 : Nat) ∧
      (List.take ca118.length (List.drop (0 : Nat) ca118)).length ≤ (9223372036854775807 : Nat) ∧
        ac119.length ≤ (9223372036854775807 : Nat))) ∧
       (chk ((0 : Nat) + on115.length ≤ on115.length) (chk ((0 : Nat) + (IntKind.i64.wrap ((59 : Int) + s_rem num (3 : Int))).toNat ≤
  (List.replicate (IntKind.i64.wrap ((59 : Int) + s_rem num (3 : Int))).toNat [AV.int IntKind.i64 (0 : Int)]).length) (chk ((0 : Nat) + ca118.length ≤ ca118.length) (((Hyp ((0 : Int) ≤ n'105 ∧
  n'105 ≤ (1000000 : Int) ∧
    (List.take on115.length (List.drop (0 : Nat) on115)).length ≤ (9223372036854775807 : Nat) ∧
      (List.take ca118.length (List.drop (0 : Nat) ca118)).length ≤ (9223372036854775807 : Nat) ∧
        ac119.length ≤ (9223372036854775807 : Nat))) ∧
       (Q ((AV.bool
    (s_scheck n'105 (List.map (fun n => [AV.int IntKind.i64 n]) ps111).length
        (List.take on115.length (List.drop (0 : Nat) on115))
        (List.take (IntKind.i64.wrap ((59 : Int) + s_rem num (3 : Int))).toNat
          (List.drop (0 : Nat)
            (List.replicate (IntKind.i64.wrap ((59 : Int) + s_rem num (3 : Int))).toNat
              [AV.int IntKind.i64 (0 : Int)])))
        er117 (List.take ca118.length (List.drop (0 : Nat) ca118)) k121 a122 f123 t124 ac119 dv120 z125 ==
      s_scheck n'105 (List.map (fun n => [AV.int IntKind.i64 n]) ps111).length
        (List.take on115.length (List.drop (0 : Nat) on115))
        (List.take (IntKind.i64.wrap ((59 : Int) + s_rem num (3 : Int))).toNat
          (List.drop (0 : Nat)
            (List.replicate (IntKind.i64.wrap ((59 : Int) + s_rem num (3 : Int))).toNat
              [AV.int IntKind.i64 (0 : Int)])))
        er117 (List.take ca118.length (List.drop (0 : Nat) ca118)) k121 a122 f123 t124 ac119 dv120 z125),
  []))))))))))))))))))
       (br (s_rem wh (10 : Int) == (4 : Int))
        (chk ((0 : Int) ≤ IntKind.i64.wrap ((59 : Int) + s_rem num (3 : Int)) ∧
  IntKind.i64.wrap ((59 : Int) + s_rem num (3 : Int)) ≤ IntKind.i64.wrap ((59 : Int) + s_rem num (3 : Int)) ∧
    (8 : Int) * IntKind.i64.wrap ((59 : Int) + s_rem num (3 : Int)) ≤ (140737488355328 : Int)) (chk (IntKind.i64.wrap ((59 : Int) + s_rem num (3 : Int)) ≤ (9223372036854775807 : Int)) (chk ((0 : Nat) + on115.length ≤ on115.length) (chk ((0 : Nat) + (IntKind.i64.wrap ((59 : Int) + s_rem num (3 : Int))).toNat ≤
  (List.replicate (IntKind.i64.wrap ((59 : Int) + s_rem num (3 : Int))).toNat [AV.int IntKind.i64 (0 : Int)]).length) (chk ((0 : Nat) + ca118.length ≤ ca118.length) (chk ((0 : Nat) + on115.length ≤ on115.length) (chk ((0 : Nat) + (IntKind.i64.wrap ((59 : Int) + s_rem num (3 : Int))).toNat ≤
  (List.replicate (IntKind.i64.wrap ((59 : Int) + s_rem num (3 : Int))).toNat [AV.int IntKind.i64 (0 : Int)]).length) (chk ((0 : Nat) + ca118.length ≤ ca118.length) (((Hyp ((0 : Int) ≤ n'105 ∧
  n'105 ≤ (1000000 : Int) ∧
    (List.take on115.length (List.drop (0 : Nat) on115)).length ≤ (9223372036854775807 : Nat) ∧
      (List.take ca118.length (List.drop (0 : Nat) ca118)).length ≤ (9223372036854775807 : Nat) ∧
        ac119.length ≤ (9223372036854775807 : Nat))) ∧
        (chk ((0 : Nat) + on115.length ≤ on115.length) (chk ((0 : Nat) + (IntKind.i64.wrap ((59 : Int) + s_rem num (3 : Int))).toNat ≤
  (List.replicate (IntKind.i64.wrap ((59 : Int) + s_rem num (3 : Int))).toNat [AV.int IntKind.i64 (0 : Int)]).length) (chk ((0 : Nat) + ca118.length ≤ ca118.length) (((Hyp ((0 : Int) ≤ n'105 ∧
  n'105 ≤ (1000000 : Int) ∧
    (List.take on115.length (List.drop (0 : Nat) on115)).length ≤ (9223372036854775807 : Nat) ∧
      (List.take ca118.length (List.drop (0 : Nat) ca118)).length ≤ (9223372036854775807 : Nat) ∧
        ac119.length ≤ (9223372036854775807 : Nat))) ∧
        (Q ((AV.bool
    (s_scheck n'105 (List.map (fun n => [AV.int IntKind.i64 n]) ps111).length
        (List.take on115.length (List.drop (0 : Nat) on115)) dr116
        (List.take (IntKind.i64.wrap ((59 : Int) + s_rem num (3 : Int))).toNat
          (List.drop (0 : Nat)
            (List.replicate (IntKind.i64.wrap ((59 : Int) + s_rem num (3 : Int))).toNat
              [AV.int IntKind.i64 (0 : Int)])))
        (List.take ca118.length (List.drop (0 : Nat) ca118)) k121 a122 f123 t124 ac119 dv120 z125 ==
      s_scheck n'105 (List.map (fun n => [AV.int IntKind.i64 n]) ps111).length
        (List.take on115.length (List.drop (0 : Nat) on115)) dr116
        (List.take (IntKind.i64.wrap ((59 : Int) + s_rem num (3 : Int))).toNat
          (List.drop (0 : Nat)
            (List.replicate (IntKind.i64.wrap ((59 : Int) + s_rem num (3 : Int))).toNat
              [AV.int IntKind.i64 (0 : Int)])))
        (List.take ca118.length (List.drop (0 : Nat) ca118)) k121 a122 f123 t124 ac119 dv120 z125),
  []))))))))))))))))))
        (br (s_rem wh (10 : Int) == (5 : Int))
         (chk ((0 : Int) ≤ IntKind.i64.wrap ((99 : Int) + s_rem num (3 : Int)) ∧
  IntKind.i64.wrap ((99 : Int) + s_rem num (3 : Int)) ≤ IntKind.i64.wrap ((99 : Int) + s_rem num (3 : Int)) ∧
    (32 : Int) * IntKind.i64.wrap ((99 : Int) + s_rem num (3 : Int)) ≤ (140737488355328 : Int)) (chk (IntKind.i64.wrap ((99 : Int) + s_rem num (3 : Int)) ≤ (9223372036854775807 : Int)) (chk ((0 : Nat) + on115.length ≤ on115.length) (chk ((0 : Nat) + (IntKind.i64.wrap ((99 : Int) + s_rem num (3 : Int))).toNat ≤
  (List.replicate (IntKind.i64.wrap ((99 : Int) + s_rem num (3 : Int))).toNat
      [AV.int IntKind.i64 (0 : Int), AV.int IntKind.i64 (0 : Int), AV.int IntKind.i64 (0 : Int),
        AV.int IntKind.i64 (0 : Int)]).length) (chk ((0 : Nat) + on115.length ≤ on115.length) (chk ((0 : Nat) + (IntKind.i64.wrap ((99 : Int) + s_rem num (3 : Int))).toNat ≤
  (List.replicate (IntKind.i64.wrap ((99 : Int) + s_rem num (3 : Int))).toNat
      [AV.int IntKind.i64 (0 : Int), AV.int IntKind.i64 (0 : Int), AV.int IntKind.i64 (0 : Int),
        AV.int IntKind.i64 (0 : Int)]).length) (((Hyp ((0 : Int) ≤ n'105 ∧
  n'105 ≤ (1000000 : Int) ∧
    (List.take on115.length (List.drop (0 : Nat) on115)).length ≤ (9223372036854775807 : Nat) ∧
      (List.take (IntKind.i64.wrap ((99 : Int) + s_rem num (3 : Int))).toNat
              (List.drop (0 : Nat)
                (List.replicate (IntKind.i64.wrap ((99 : Int) + s_rem num (3 : Int))).toNat
                  [AV.int IntKind.i64 (0 : Int), AV.int IntKind.i64 (0 : Int), AV.int IntKind.i64 (0 : Int),
                    AV.int IntKind.i64 (0 : Int)]))).length ≤
          (9223372036854775807 : Nat) ∧
        ac119.length ≤ (9223372036854775807 : Nat))) ∧
         (chk ((0 : Nat) + on115.length ≤ on115.length) (chk ((0 : Nat) + (IntKind.i64.wrap ((99 : Int) + s_rem num (3 : Int))).toNat ≤
  (List.replicate (IntKind.i64.wrap ((99 : Int) + s_rem num (3 : Int))).toNat
      [AV.int IntKind.i64 (0 : Int), AV.int IntKind.i64 (0 : Int), AV.int IntKind.i64 (0 : Int),
        AV.int IntKind.i64 (0 : Int)]).length) (((Hyp ((0 : Int) ≤ n'105 ∧
  n'105 ≤ (1000000 : Int) ∧
    (List.take on115.length (List.drop (0 : Nat) on115)).length ≤ (9223372036854775807 : Nat) ∧
      (List.take (IntKind.i64.wrap ((99 : Int) + s_rem num (3 : Int))).toNat
              (List.drop (0 : Nat)
                (List.replicate (IntKind.i64.wrap ((99 : Int) + s_rem num (3 : Int))).toNat
                  [AV.int IntKind.i64 (0 : Int), AV.int IntKind.i64 (0 : Int), AV.int IntKind.i64 (0 : Int),
                    AV.int IntKind.i64 (0 : Int)]))).length ≤
          (9223372036854775807 : Nat) ∧
        ac119.length ≤ (9223372036854775807 : Nat))) ∧
         (Q ((AV.bool
    (s_scheck n'105 (List.map (fun n => [AV.int IntKind.i64 n]) ps111).length
        (List.take on115.length (List.drop (0 : Nat) on115)) dr116 er117
        (List.take (IntKind.i64.wrap ((99 : Int) + s_rem num (3 : Int))).toNat
          (List.drop (0 : Nat)
            (List.replicate (IntKind.i64.wrap ((99 : Int) + s_rem num (3 : Int))).toNat
              [AV.int IntKind.i64 (0 : Int), AV.int IntKind.i64 (0 : Int), AV.int IntKind.i64 (0 : Int),
                AV.int IntKind.i64 (0 : Int)])))
        k121 a122 f123 t124 ac119 dv120 z125 ==
      s_scheck n'105 (List.map (fun n => [AV.int IntKind.i64 n]) ps111).length
        (List.take on115.length (List.drop (0 : Nat) on115)) dr116 er117
        (List.take (IntKind.i64.wrap ((99 : Int) + s_rem num (3 : Int))).toNat
          (List.drop (0 : Nat)
            (List.replicate (IntKind.i64.wrap ((99 : Int) + s_rem num (3 : Int))).toNat
              [AV.int IntKind.i64 (0 : Int), AV.int IntKind.i64 (0 : Int), AV.int IntKind.i64 (0 : Int),
                AV.int IntKind.i64 (0 : Int)])))
        k121 a122 f123 t124 ac119 dv120 z125),
  [])))))))))))))))
         (br (s_rem wh (10 : Int) == (6 : Int))
          (chk ((0 : Int) ≤ s_rem num (4 : Int) ∧ s_rem num (4 : Int) < (4 : Int)) (chk ((0 : Nat) + (s_rem num (4 : Int)).toNat < (4 : Nat)) (chk (ca118.length = ca118.length) (chk ((ca118.length + (1 : Nat)) * (32 : Nat) ≤ (140737488355328 : Nat)) (chk (ca118.length + (1 : Nat) ≤ (9223372036854775807 : Nat)) (chk ((0 : Nat) + on115.length ≤ on115.length) (chk ((0 : Nat) + (ca118.length + (1 : Nat)) ≤
  (ca118 ++
      [[AV.int IntKind.i64
            (([[AV.int IntKind.i64 (-1 : Int)], [AV.int IntKind.i64 (200 : Int)], [AV.int IntKind.i64 (201 : Int)],
                        [AV.int IntKind.i64 num]].getD
                    ((0 : Nat) + (s_rem num (4 : Int)).toNat) []).getD
                (0 : Nat) AV.gone).toI,
          AV.int IntKind.i64 (0 : Int), AV.int IntKind.i64 (0 : Int), AV.int IntKind.i64 (0 : Int)]]).length) (chk ((0 : Nat) + on115.length ≤ on115.length) (chk ((0 : Nat) + (ca118.length + (1 : Nat)) ≤
  (ca118 ++
      [[AV.int IntKind.i64
            (([[AV.int IntKind.i64 (-1 : Int)], [AV.int IntKind.i64 (200 : Int)], [AV.int IntKind.i64 (201 : Int)],
                        [AV.int IntKind.i64 num]].getD
                    ((0 : Nat) + (s_rem num (4 : Int)).toNat) []).getD
                (0 : Nat) AV.gone).toI,
          AV.int IntKind.i64 (0 : Int), AV.int IntKind.i64 (0 : Int), AV.int IntKind.i64 (0 : Int)]]).length) (((Hyp ((0 : Int) ≤ n'105 ∧
  n'105 ≤ (1000000 : Int) ∧
    (List.take on115.length (List.drop (0 : Nat) on115)).length ≤ (9223372036854775807 : Nat) ∧
      (List.take (ca118.length + (1 : Nat))
              (List.drop (0 : Nat)
                (ca118 ++
                  [[AV.int IntKind.i64
                        (([[AV.int IntKind.i64 (-1 : Int)], [AV.int IntKind.i64 (200 : Int)],
                                    [AV.int IntKind.i64 (201 : Int)], [AV.int IntKind.i64 num]].getD
                                ((0 : Nat) + (s_rem num (4 : Int)).toNat) []).getD
                            (0 : Nat) AV.gone).toI,
                      AV.int IntKind.i64 (0 : Int), AV.int IntKind.i64 (0 : Int),
                      AV.int IntKind.i64 (0 : Int)]]))).length ≤
          (9223372036854775807 : Nat) ∧
        ac119.length ≤ (9223372036854775807 : Nat))) ∧
          (chk ((0 : Nat) + on115.length ≤ on115.length) (chk ((0 : Nat) + (ca118.length + (1 : Nat)) ≤
  (ca118 ++
      [[AV.int IntKind.i64
            (([[AV.int IntKind.i64 (-1 : Int)], [AV.int IntKind.i64 (200 : Int)], [AV.int IntKind.i64 (201 : Int)],
                        [AV.int IntKind.i64 num]].getD
                    ((0 : Nat) + (s_rem num (4 : Int)).toNat) []).getD
                (0 : Nat) AV.gone).toI,
          AV.int IntKind.i64 (0 : Int), AV.int IntKind.i64 (0 : Int), AV.int IntKind.i64 (0 : Int)]]).length) (((Hyp ((0 : Int) ≤ n'105 ∧
  n'105 ≤ (1000000 : Int) ∧
    (List.take on115.length (List.drop (0 : Nat) on115)).length ≤ (9223372036854775807 : Nat) ∧
      (List.take (ca118.length + (1 : Nat))
              (List.drop (0 : Nat)
                (ca118 ++
                  [[AV.int IntKind.i64
                        (([[AV.int IntKind.i64 (-1 : Int)], [AV.int IntKind.i64 (200 : Int)],
                                    [AV.int IntKind.i64 (201 : Int)], [AV.int IntKind.i64 num]].getD
                                ((0 : Nat) + (s_rem num (4 : Int)).toNat) []).getD
                            (0 : Nat) AV.gone).toI,
                      AV.int IntKind.i64 (0 : Int), AV.int IntKind.i64 (0 : Int),
                      AV.int IntKind.i64 (0 : Int)]]))).length ≤
          (9223372036854775807 : Nat) ∧
        ac119.length ≤ (9223372036854775807 : Nat))) ∧
          (Q ((AV.bool
    (s_scheck n'105 (List.map (fun n => [AV.int IntKind.i64 n]) ps111).length
        (List.take on115.length (List.drop (0 : Nat) on115)) dr116 er117
        (List.take (ca118.length + (1 : Nat))
          (List.drop (0 : Nat)
            (ca118 ++
              [[AV.int IntKind.i64
                    (([[AV.int IntKind.i64 (-1 : Int)], [AV.int IntKind.i64 (200 : Int)],
                                [AV.int IntKind.i64 (201 : Int)], [AV.int IntKind.i64 num]].getD
                            ((0 : Nat) + (s_rem num (4 : Int)).toNat) []).getD
                        (0 : Nat) AV.gone).toI,
                  AV.int IntKind.i64 (0 : Int), AV.int IntKind.i64 (0 : Int), AV.int IntKind.i64 (0 : Int)]])))
        k121 a122 f123 t124 ac119 dv120 z125 ==
      s_scheck n'105 (List.map (fun n => [AV.int IntKind.i64 n]) ps111).length
        (List.take on115.length (List.drop (0 : Nat) on115)) dr116 er117
        (List.take (ca118.length + (1 : Nat))
          (List.drop (0 : Nat)
            (ca118 ++
              [[AV.int IntKind.i64
                    (([[AV.int IntKind.i64 (-1 : Int)], [AV.int IntKind.i64 (200 : Int)],
                                [AV.int IntKind.i64 (201 : Int)], [AV.int IntKind.i64 num]].getD
                            ((0 : Nat) + (s_rem num (4 : Int)).toNat) []).getD
                        (0 : Nat) AV.gone).toI,
                  AV.int IntKind.i64 (0 : Int), AV.int IntKind.i64 (0 : Int), AV.int IntKind.i64 (0 : Int)]])))
        k121 a122 f123 t124 ac119 dv120 z125),
  []))))))))))))))))))
          (br (s_rem wh (10 : Int) == (7 : Int))
           (chk ((0 : Int) ≤ s_rem num (4 : Int) ∧ s_rem num (4 : Int) < (4 : Int)) (chk ((0 : Nat) + (s_rem num (4 : Int)).toNat < (4 : Nat)) (chk (ca118.length = ca118.length) (chk ((ca118.length + (1 : Nat)) * (32 : Nat) ≤ (140737488355328 : Nat)) (chk (ca118.length + (1 : Nat) ≤ (9223372036854775807 : Nat)) (chk ((0 : Nat) + on115.length ≤ on115.length) (chk ((0 : Nat) + (ca118.length + (1 : Nat)) ≤
  (ca118 ++
      [[AV.int IntKind.i64 (0 : Int),
          AV.int IntKind.i64
            (([[AV.int IntKind.i64 (-1 : Int)], [AV.int IntKind.i64 (IntKind.i64.wrap (n'105 - (1 : Int)))],
                        [AV.int IntKind.i64 n'105], [AV.int IntKind.i64 num]].getD
                    ((0 : Nat) + (s_rem num (4 : Int)).toNat) []).getD
                (0 : Nat) AV.gone).toI,
          AV.int IntKind.i64 (0 : Int), AV.int IntKind.i64 (0 : Int)]]).length) (chk ((0 : Nat) + on115.length ≤ on115.length) (chk ((0 : Nat) + (ca118.length + (1 : Nat)) ≤
  (ca118 ++
      [[AV.int IntKind.i64 (0 : Int),
          AV.int IntKind.i64
            (([[AV.int IntKind.i64 (-1 : Int)], [AV.int IntKind.i64 (IntKind.i64.wrap (n'105 - (1 : Int)))],
                        [AV.int IntKind.i64 n'105], [AV.int IntKind.i64 num]].getD
                    ((0 : Nat) + (s_rem num (4 : Int)).toNat) []).getD
                (0 : Nat) AV.gone).toI,
          AV.int IntKind.i64 (0 : Int), AV.int IntKind.i64 (0 : Int)]]).length) (((Hyp ((0 : Int) ≤ n'105 ∧
  n'105 ≤ (1000000 : Int) ∧
    (List.take on115.length (List.drop (0 : Nat) on115)).length ≤ (9223372036854775807 : Nat) ∧
      (List.take (ca118.length + (1 : Nat))
              (List.drop (0 : Nat)
                (ca118 ++
                  [[AV.int IntKind.i64 (0 : Int),
                      AV.int IntKind.i64
                        (([[AV.int IntKind.i64 (-1 : Int)], [AV.int IntKind.i64 (IntKind.i64.wrap (n'105 - (1 : Int)))],
                                    [AV.int IntKind.i64 n'105], [AV.int IntKind.i64 num]].getD
                                ((0 : Nat) + (s_rem num (4 : Int)).toNat) []).getD
                            (0 : Nat) AV.gone).toI,
                      AV.int IntKind.i64 (0 : Int), AV.int IntKind.i64 (0 : Int)]]))).length ≤
          (9223372036854775807 : Nat) ∧
        ac119.length ≤ (9223372036854775807 : Nat))) ∧
           (chk ((0 : Nat) + on115.length ≤ on115.length) (chk ((0 : Nat) + (ca118.length + (1 : Nat)) ≤
  (ca118 ++
      [[AV.int IntKind.i64 (0 : Int),
          AV.int IntKind.i64
            (([[AV.int IntKind.i64 (-1 : Int)], [AV.int IntKind.i64 (IntKind.i64.wrap (n'105 - (1 : Int)))],
                        [AV.int IntKind.i64 n'105], [AV.int IntKind.i64 num]].getD
                    ((0 : Nat) + (s_rem num (4 : Int)).toNat) []).getD
                (0 : Nat) AV.gone).toI,
          AV.int IntKind.i64 (0 : Int), AV.int IntKind.i64 (0 : Int)]]).length) (((Hyp ((0 : Int) ≤ n'105 ∧
  n'105 ≤ (1000000 : Int) ∧
    (List.take on115.length (List.drop (0 : Nat) on115)).length ≤ (9223372036854775807 : Nat) ∧
      (List.take (ca118.length + (1 : Nat))
              (List.drop (0 : Nat)
                (ca118 ++
                  [[AV.int IntKind.i64 (0 : Int),
                      AV.int IntKind.i64
                        (([[AV.int IntKind.i64 (-1 : Int)], [AV.int IntKind.i64 (IntKind.i64.wrap (n'105 - (1 : Int)))],
                                    [AV.int IntKind.i64 n'105], [AV.int IntKind.i64 num]].getD
                                ((0 : Nat) + (s_rem num (4 : Int)).toNat) []).getD
                            (0 : Nat) AV.gone).toI,
                      AV.int IntKind.i64 (0 : Int), AV.int IntKind.i64 (0 : Int)]]))).length ≤
          (9223372036854775807 : Nat) ∧
        ac119.length ≤ (9223372036854775807 : Nat))) ∧
           (Q ((AV.bool
    (s_scheck n'105 (List.map (fun n => [AV.int IntKind.i64 n]) ps111).length
        (List.take on115.length (List.drop (0 : Nat) on115)) dr116 er117
        (List.take (ca118.length + (1 : Nat))
          (List.drop (0 : Nat)
            (ca118 ++
              [[AV.int IntKind.i64 (0 : Int),
                  AV.int IntKind.i64
                    (([[AV.int IntKind.i64 (-1 : Int)], [AV.int IntKind.i64 (IntKind.i64.wrap (n'105 - (1 : Int)))],
                                [AV.int IntKind.i64 n'105], [AV.int IntKind.i64 num]].getD
                            ((0 : Nat) + (s_rem num (4 : Int)).toNat) []).getD
                        (0 : Nat) AV.gone).toI,
                  AV.int IntKind.i64 (0 : Int), AV.int IntKind.i64 (0 : Int)]])))
        k121 a122 f123 t124 ac119 dv120 z125 ==
      s_scheck n'105 (List.map (fun n => [AV.int IntKind.i64 n]) ps111).length
        (List.take on115.length (List.drop (0 : Nat) on115)) dr116 er117
        (List.take (ca118.length + (1 : Nat))
          (List.drop (0 : Nat)
            (ca118 ++
              [[AV.int IntKind.i64 (0 : Int),
                  AV.int IntKind.i64
                    (([[AV.int IntKind.i64 (-1 : Int)], [AV.int IntKind.i64 (IntKind.i64.wrap (n'105 - (1 : Int)))],
                                [AV.int IntKind.i64 n'105], [AV.int IntKind.i64 num]].getD
                            ((0 : Nat) + (s_rem num (4 : Int)).toNat) []).getD
                        (0 : Nat) AV.gone).toI,
                  AV.int IntKind.i64 (0 : Int), AV.int IntKind.i64 (0 : Int)]])))
        k121 a122 f123 t124 ac119 dv120 z125),
  []))))))))))))))))))
           (br (s_rem wh (10 : Int) == (8 : Int))
            (chk ((0 : Int) ≤ s_rem num (4 : Int) ∧ s_rem num (4 : Int) < (4 : Int)) (chk ((0 : Nat) + (s_rem num (4 : Int)).toNat < (4 : Nat)) (chk (ca118.length = ca118.length) (chk ((ca118.length + (1 : Nat)) * (32 : Nat) ≤ (140737488355328 : Nat)) (chk (ca118.length + (1 : Nat) ≤ (9223372036854775807 : Nat)) (chk ((0 : Nat) + on115.length ≤ on115.length) (chk ((0 : Nat) + (ca118.length + (1 : Nat)) ≤
  (ca118 ++
      [[AV.int IntKind.i64 (0 : Int), AV.int IntKind.i64 (0 : Int),
          AV.int IntKind.i64
            (([[AV.int IntKind.i64 (-1 : Int)],
                        [AV.int IntKind.i64 (↑(List.map (fun n => [AV.int IntKind.i64 n]) ps111).length : Int)],
                        [AV.int IntKind.i64
                            (IntKind.i64.wrap
                              ((↑(List.map (fun n => [AV.int IntKind.i64 n]) ps111).length : Int) + (1 : Int)))],
                        [AV.int IntKind.i64 num]].getD
                    ((0 : Nat) + (s_rem num (4 : Int)).toNat) []).getD
                (0 : Nat) AV.gone).toI,
          AV.int IntKind.i64 num]]).length) (chk ((0 : Nat) + on115.length ≤ on115.length) (chk ((0 : Nat) + (ca118.length + (1 : Nat)) ≤
  (ca118 ++
      [[AV.int IntKind.i64 (0 : Int), AV.int IntKind.i64 (0 : Int),
          AV.int IntKind.i64
            (([[AV.int IntKind.i64 (-1 : Int)],
                        [AV.int IntKind.i64 (↑(List.map (fun n => [AV.int IntKind.i64 n]) ps111).length : Int)],
                        [AV.int IntKind.i64
                            (IntKind.i64.wrap
                              ((↑(List.map (fun n => [AV.int IntKind.i64 n]) ps111).length : Int) + (1 : Int)))],
                        [AV.int IntKind.i64 num]].getD
                    ((0 : Nat) + (s_rem num (4 : Int)).toNat) []).getD
                (0 : Nat) AV.gone).toI,
          AV.int IntKind.i64 num]]).length) (((Hyp ((0 : Int) ≤ n'105 ∧
  n'105 ≤ (1000000 : Int) ∧
    (List.take on115.length (List.drop (0 : Nat) on115)).length ≤ (9223372036854775807 : Nat) ∧
      (List.take (ca118.length + (1 : Nat))
              (List.drop (0 : Nat)
                (ca118 ++
                  [[AV.int IntKind.i64 (0 : Int), AV.int IntKind.i64 (0 : Int),
                      AV.int IntKind.i64
                        (([[AV.int IntKind.i64 (-1 : Int)],
                                    [AV.int IntKind.i64
                                        (↑(List.map (fun n => [AV.int IntKind.i64 n]) ps111).length : Int)],
                                    [AV.int IntKind.i64
                                        (IntKind.i64.wrap
                                          ((↑(List.map (fun n => [AV.int IntKind.i64 n]) ps111).length : Int) +
                                            (1 : Int)))],
                                    [AV.int IntKind.i64 num]].getD
                                ((0 : Nat) + (s_rem num (4 : Int)).toNat) []).getD
                            (0 : Nat) AV.gone).toI,
                      AV.int IntKind.i64 num]]))).length ≤
          (9223372036854775807 : Nat) ∧
        ac119.length ≤ (9223372036854775807 : Nat))) ∧
            (chk ((0 : Nat) + on115.length ≤ on115.length) (chk ((0 : Nat) + (ca118.length + (1 : Nat)) ≤
  (ca118 ++
      [[AV.int IntKind.i64 (0 : Int), AV.int IntKind.i64 (0 : Int),
          AV.int IntKind.i64
            (([[AV.int IntKind.i64 (-1 : Int)],
                        [AV.int IntKind.i64 (↑(List.map (fun n => [AV.int IntKind.i64 n]) ps111).length : Int)],
                        [AV.int IntKind.i64
                            (IntKind.i64.wrap
                              ((↑(List.map (fun n => [AV.int IntKind.i64 n]) ps111).length : Int) + (1 : Int)))],
                        [AV.int IntKind.i64 num]].getD
                    ((0 : Nat) + (s_rem num (4 : Int)).toNat) []).getD
                (0 : Nat) AV.gone).toI,
          AV.int IntKind.i64 num]]).length) (((Hyp ((0 : Int) ≤ n'105 ∧
  n'105 ≤ (1000000 : Int) ∧
    (List.take on115.length (List.drop (0 : Nat) on115)).length ≤ (9223372036854775807 : Nat) ∧
      (List.take (ca118.length + (1 : Nat))
              (List.drop (0 : Nat)
                (ca118 ++
                  [[AV.int IntKind.i64 (0 : Int), AV.int IntKind.i64 (0 : Int),
                      AV.int IntKind.i64
                        (([[AV.int IntKind.i64 (-1 : Int)],
                                    [AV.int IntKind.i64
                                        (↑(List.map (fun n => [AV.int IntKind.i64 n]) ps111).length : Int)],
                                    [AV.int IntKind.i64
                                        (IntKind.i64.wrap
                                          ((↑(List.map (fun n => [AV.int IntKind.i64 n]) ps111).length : Int) +
                                            (1 : Int)))],
                                    [AV.int IntKind.i64 num]].getD
                                ((0 : Nat) + (s_rem num (4 : Int)).toNat) []).getD
                            (0 : Nat) AV.gone).toI,
                      AV.int IntKind.i64 num]]))).length ≤
          (9223372036854775807 : Nat) ∧
        ac119.length ≤ (9223372036854775807 : Nat))) ∧
            (Q ((AV.bool
    (s_scheck n'105 (List.map (fun n => [AV.int IntKind.i64 n]) ps111).length
        (List.take on115.length (List.drop (0 : Nat) on115)) dr116 er117
        (List.take (ca118.length + (1 : Nat))
          (List.drop (0 : Nat)
            (ca118 ++
              [[AV.int IntKind.i64 (0 : Int), AV.int IntKind.i64 (0 : Int),
                  AV.int IntKind.i64
                    (([[AV.int IntKind.i64 (-1 : Int)],
                                [AV.int IntKind.i64 (↑(List.map (fun n => [AV.int IntKind.i64 n]) ps111).length : Int)],
                                [AV.int IntKind.i64
                                    (IntKind.i64.wrap
                                      ((↑(List.map (fun n => [AV.int IntKind.i64 n]) ps111).length : Int) +
                                        (1 : Int)))],
                                [AV.int IntKind.i64 num]].getD
                            ((0 : Nat) + (s_rem num (4 : Int)).toNat) []).getD
                        (0 : Nat) AV.gone).toI,
                  AV.int IntKind.i64 num]])))
        k121 a122 f123 t124 ac119 dv120 z125 ==
      s_scheck n'105 (List.map (fun n => [AV.int IntKind.i64 n]) ps111).length
        (List.take on115.length (List.drop (0 : Nat) on115)) dr116 er117
        (List.take (ca118.length + (1 : Nat))
          (List.drop (0 : Nat)
            (ca118 ++
              [[AV.int IntKind.i64 (0 : Int), AV.int IntKind.i64 (0 : Int),
                  AV.int IntKind.i64
                    (([[AV.int IntKind.i64 (-1 : Int)],
                                [AV.int IntKind.i64 (↑(List.map (fun n => [AV.int IntKind.i64 n]) ps111).length : Int)],
                                [AV.int IntKind.i64
                                    (IntKind.i64.wrap
                                      ((↑(List.map (fun n => [AV.int IntKind.i64 n]) ps111).length : Int) +
                                        (1 : Int)))],
                                [AV.int IntKind.i64 num]].getD
                            ((0 : Nat) + (s_rem num (4 : Int)).toNat) []).getD
                        (0 : Nat) AV.gone).toI,
                  AV.int IntKind.i64 num]])))
        k121 a122 f123 t124 ac119 dv120 z125),
  []))))))))))))))))))
            (br (s_rem wh (10 : Int) == (9 : Int))
             (chk ((0 : Nat) + on115.length ≤ on115.length) (chk ((0 : Nat) + ca118.length ≤ ca118.length) (chk ((0 : Nat) + on115.length ≤ on115.length) (chk ((0 : Nat) + ca118.length ≤ ca118.length) (((Hyp ((0 : Int) ≤ n'105 ∧
  n'105 ≤ (1000000 : Int) ∧
    (List.take on115.length (List.drop (0 : Nat) on115)).length ≤ (9223372036854775807 : Nat) ∧
      (List.take ca118.length (List.drop (0 : Nat) ca118)).length ≤ (9223372036854775807 : Nat) ∧
        r4.length ≤ (9223372036854775807 : Nat))) ∧
             (chk ((0 : Nat) + on115.length ≤ on115.length) (chk ((0 : Nat) + ca118.length ≤ ca118.length) (((Hyp ((0 : Int) ≤ n'105 ∧
  n'105 ≤ (1000000 : Int) ∧
    (List.take on115.length (List.drop (0 : Nat) on115)).length ≤ (9223372036854775807 : Nat) ∧
      (List.take ca118.length (List.drop (0 : Nat) ca118)).length ≤ (9223372036854775807 : Nat) ∧
        r4.length ≤ (9223372036854775807 : Nat))) ∧
             (Q ((AV.bool
    (s_scheck n'105 (List.map (fun n => [AV.int IntKind.i64 n]) ps111).length
        (List.take on115.length (List.drop (0 : Nat) on115)) dr116 er117
        (List.take ca118.length (List.drop (0 : Nat) ca118)) k a f t r4 r5 z125 ==
      s_scheck n'105 (List.map (fun n => [AV.int IntKind.i64 n]) ps111).length
        (List.take on115.length (List.drop (0 : Nat) on115)) dr116 er117
        (List.take ca118.length (List.drop (0 : Nat) ca118)) k a f t r4 r5 z125),
  [])))))))))))))
             (chk ((0 : Nat) + on115.length ≤ on115.length) (chk ((0 : Nat) + ca118.length ≤ ca118.length) (chk ((0 : Nat) + on115.length ≤ on115.length) (chk ((0 : Nat) + ca118.length ≤ ca118.length) (((Hyp ((0 : Int) ≤ n'105 ∧
  n'105 ≤ (1000000 : Int) ∧
    (List.take on115.length (List.drop (0 : Nat) on115)).length ≤ (9223372036854775807 : Nat) ∧
      (List.take ca118.length (List.drop (0 : Nat) ca118)).length ≤ (9223372036854775807 : Nat) ∧
        ac119.length ≤ (9223372036854775807 : Nat))) ∧
             (chk ((0 : Nat) + on115.length ≤ on115.length) (chk ((0 : Nat) + ca118.length ≤ ca118.length) (((Hyp ((0 : Int) ≤ n'105 ∧
  n'105 ≤ (1000000 : Int) ∧
    (List.take on115.length (List.drop (0 : Nat) on115)).length ≤ (9223372036854775807 : Nat) ∧
      (List.take ca118.length (List.drop (0 : Nat) ca118)).length ≤ (9223372036854775807 : Nat) ∧
        ac119.length ≤ (9223372036854775807 : Nat))) ∧
             (Q ((AV.bool
    (s_scheck n'105 (List.map (fun n => [AV.int IntKind.i64 n]) ps111).length
        (List.take on115.length (List.drop (0 : Nat) on115)) dr116 er117
        (List.take ca118.length (List.drop (0 : Nat) ca118)) k121 a122 f123 t124 ac119 dv120 z125 ==
      s_scheck n'105 (List.map (fun n => [AV.int IntKind.i64 n]) ps111).length
        (List.take on115.length (List.drop (0 : Nat) on115)) dr116 er117
        (List.take ca118.length (List.drop (0 : Nat) ca118)) k121 a122 f123 t124 ac119 dv120 z125),
  []))))))))))))))))))))))))))))))))))))))))))))))))))))))))))) := by kernel_rfl
end Go.Proofs.YthihinlamlamhaaE
/- ScriptChecks: what is not too much. -/
namespace Go.Proofs.YthihinlamlamhaaE
open Go
set_option linter.unusedVariables false
set_option linter.unusedSimpArgs false
set_option maxRecDepth 100000

theorem okLFew : OkLp Try.prog H0 39 2 lFew := by
  refine okLp_of (U := 6) (k := 6) okT8 lFew (fun vals h => match vals, h with | [_, .int _ i], [.box [_, _, _, _, .row _ _ rs, _]] => ((rs.length : Int) - i).toNat | _, _ => 0) fun vals h Q hl => ?_
  unfold lFew at hl
  split at hl
  · rename_i i k a f t b4 r4 b5 r5
    obtain ⟨⟨h0, h1, h2⟩, hq1, hq2⟩ := hyp_iff.1 hl
    refine to (nf39a ..) ?_
    refine br_intro (fun hc => chk_iff.2 ⟨⟨h0, of_decide_eq_true hc⟩, br_intro (fun hb => hq2) fun hb => ?_⟩) fun hc => hq1
    have hc := of_decide_eq_true hc
    rw [wr (x := i + 1) (by omega) (by omega)]
    exact ⟨by show ((r4.length : Int) - (i + 1)).toNat < ((r4.length : Int) - i).toNat; omega, hyp_iff.2 ⟨⟨by omega, by omega, h2⟩, hq1, hq2⟩⟩
  · exact hl.elim
theorem okT9L : OkSp Try.prog H0 T9L := ⟨okT8.fn, okLFew, trivial⟩
theorem ok39 : OkS Try.prog H0 39 sFew := by
  intro args h Q hq
  unfold sFew at hq
  split at hq
  · obtain ⟨h0, hQ⟩ := hyp_iff.1 hq
    refine in_ok (S := T9L) (U := 6) (k := 6) okT9L (to (nf39 ..) (hyp_iff.2 ⟨⟨by omega, by omega, h0⟩, br_intro (fun hc => hQ _ fun hb => ?_) fun hc => hQ false (by simp), hQ false (by simp)⟩))
    have hc := of_decide_eq_true hc
    have hb := of_decide_eq_true hb
    exact ⟨by omega, by omega⟩
  · exact hq.elim
theorem okT9 : OkSp Try.prog H0 T9 := ⟨⟨ok39, okT8.fn⟩, trivial⟩
theorem ok15 : OkS Try.prog H0 15 sFews := by
  intro args h Q hq
  unfold sFews at hq
  split at hq
  · obtain ⟨h0, hQ⟩ := hyp_iff.1 hq
    refine in_ok (S := T9) (U := 6) (k := 6) okT9 (to (nf15 ..) (hyp_iff.2 ⟨h0, fun v hv => br_intro (fun c1 => br_intro (fun c2 => br_intro (fun c3 => br_intro (fun c4 => hQ _ fun hb => ?_) fun _ => hQ false (by simp)) fun _ => hQ false (by simp)) fun _ => hQ false (by simp)) fun _ => hQ false (by simp)⟩))
    have c2 := of_decide_eq_true c2
    have c3 := of_decide_eq_true c3
    have c4 := of_decide_eq_true c4
    have hb := of_decide_eq_true hb
    have := hv c1
    exact ⟨by omega, by omega, by omega, by omega, this.1, this.2⟩
  · exact hq.elim
theorem okTA : OkSp Try.prog H0 TA := ⟨⟨ok15, okT9.fn⟩, trivial⟩
end Go.Proofs.YthihinlamlamhaaE
/- Scripts, opened. -/
namespace Go.Proofs.YthihinlamlamhaaE
open Go
set_option linter.unusedVariables false
set_option maxRecDepth 100000

abbrev AAct : List AV → Prop := Parts [AInt .i64, AInt .i64, AStr]
theorem op_act (w : World) : Op Try.prog w 47 AAct := op_struct Try.underlying47 (by kernel_rfl) ⟨op_int Try.underlying3, op_int Try.underlying3, op_str Try.underlying9, trivial⟩
theorem act_pure {r : List AV} (h : AAct r) : rowOk [.int .i64, .int .i64, .str] r ∧ pureR [.int .i64, .int .i64, .str] r = true := by
  obtain ⟨_, _, rfl, ⟨a, rfl, _⟩, _, _, rfl, ⟨b, rfl, _⟩, _, _, rfl, ⟨s, rfl, h⟩, rfl⟩ := h
  exact ⟨⟨rfl, rfl⟩, rfl⟩
theorem op_acts (w : World) : Op Try.prog w 29 (ARow [.int .i64, .int .i64, .str] AAct) := op_slice Try.underlying29 (by kernel_rfl) (by decide) (op_act w) fun _ => act_pure
abbrev AFault : List AV → Prop := Parts [AInt .i64, AInt .i64, AInt .i64, AInt .i64, ARow [.int .i64, .int .i64, .str] AAct, ARow [.int .i64] (AInt .i64)]
theorem op_fault (w : World) : Op Try.prog w 31 AFault :=
  op_struct Try.underlying31 (by kernel_rfl) ⟨op_int Try.underlying3, op_int Try.underlying3, op_int Try.underlying3, op_int Try.underlying3, op_acts w, op_ints w, trivial⟩
abbrev ACall : List AV → Prop := Parts [AInt .i64, AInt .i64, AInt .i64, AInt .i64]
theorem op_call (w : World) : Op Try.prog w 43 ACall := op_struct Try.underlying43 (by kernel_rfl) ⟨op_int Try.underlying3, op_int Try.underlying3, op_int Try.underlying3, op_int Try.underlying3, trivial⟩
theorem call_pure {r : List AV} (h : ACall r) : rowOk [.int .i64, .int .i64, .int .i64, .int .i64] r ∧ pureR [.int .i64, .int .i64, .int .i64, .int .i64] r = true := by
  obtain ⟨_, _, rfl, ⟨a, rfl, _⟩, _, _, rfl, ⟨b, rfl, _⟩, _, _, rfl, ⟨c, rfl, _⟩, _, _, rfl, ⟨d, rfl, _⟩, rfl⟩ := h
  exact ⟨⟨rfl, rfl⟩, rfl⟩
theorem op_calls (w : World) : Op Try.prog w 28 (ARow [.int .i64, .int .i64, .int .i64, .int .i64] ACall) := op_slice Try.underlying28 (by kernel_rfl) (by decide) (op_call w) fun _ => call_pure
abbrev AScr : List AV → Prop := Parts [ARow [.int .i64] (AInt .i64), ARow [.int .i64] (AInt .i64), ARow [.int .i64] (AInt .i64), ARow [.int .i64, .int .i64, .int .i64, .int .i64] ACall, AFault, AInt .i64]
theorem op_scr (w : World) : Op Try.prog w 33 AScr :=
  op_struct Try.underlying33 (by kernel_rfl) ⟨op_ints w, op_ints w, op_ints w, op_calls w, op_fault w, op_int Try.underlying3, trivial⟩
theorem scr_form {cs : List AV} (h : AScr cs) : ∃ (b0 b1 b2 b3 b4 b5 : Bool) (r0 r1 r2 r3 r4 r5 : List (List AV)) (k a f t z : Int), cs = [.row b0 [.int .i64] r0, .row b1 [.int .i64] r1, .row b2 [.int .i64] r2, .row b3 [.int .i64, .int .i64, .int .i64, .int .i64] r3, .int .i64 k, .int .i64 a, .int .i64 f, .int .i64 t, .row b4 [.int .i64, .int .i64, .str] r4, .row b5 [.int .i64] r5, .int .i64 z] ∧
    r4.length ≤ maxLen := by
  obtain ⟨_, _, rfl, ⟨b0, r0, rfl, _⟩, _, _, rfl, ⟨b1, r1, rfl, _⟩, _, _, rfl, ⟨b2, r2, rfl, _⟩, _, _, rfl, ⟨b3, r3, rfl, _⟩, _, _, rfl, hf, _, _, rfl, ⟨z, rfl, _⟩, rfl⟩ := h
  obtain ⟨_, _, rfl, ⟨k, rfl, _⟩, _, _, rfl, ⟨a, rfl, _⟩, _, _, rfl, ⟨f, rfl, _⟩, _, _, rfl, ⟨t, rfl, _⟩, _, _, rfl, ⟨b4, r4, rfl, l4, _⟩, _, _, rfl, ⟨b5, r5, rfl, _⟩, rfl⟩ := hf
  exact ⟨b0, b1, b2, b3, b4, b5, r0, r1, r2, r3, r4, r5, k, a, f, t, z, rfl, l4⟩
end Go.Proofs.YthihinlamlamhaaE
/- ScriptChecks: the plain law. -/
namespace Go.Proofs.YthihinlamlamhaaE
open Go
set_option linter.unusedVariables false
set_option linter.unusedSimpArgs false
set_option maxRecDepth 100000

theorem beq_leaf {x : Int} : AV.bool (x == x) = AV.bool true := by rw [beq_self_eq_true]
theorem checks_holds (n pi e g fi : Int) (nl : Bool) (ps : List (List AV)) (b0 b1 b2 b3 b4 b5 : Bool) (r0 r1 r2 r3 r4 r5 : List (List AV)) (k a f t z : Int) (l4 : r4.length ≤ maxLen) (nl2 : Bool) (rs : List (List AV)) (hb : s_bytes rs) (hn0 : nl2 = true → rs = []) (wh num : Int) :
    inlW Try.prog H0 TA 6 (InO Try.prog H0 TA 6 6) 4 [cf n pi e g fi nl ps, .agg [.row b0 [.int .i64] r0, .row b1 [.int .i64] r1, .row b2 [.int .i64] r2, .row b3 [.int .i64, .int .i64, .int .i64, .int .i64] r3, .int .i64 k, .int .i64 a, .int .i64 f, .int .i64 t, .row b4 [.int .i64, .int .i64, .str] r4, .row b5 [.int .i64] r5, .int .i64 z], .row nl2 [.int .u8] rs, .int .i64 wh, .int .i64 num] [] (fun r => r.1 = .bool true) := by
  have hmx : maxLen = 9223372036854775807 := by decide
  refine to (nf4 ..) (hyp_iff.2 ⟨by omega, fun v hv => br_intro (fun _ => rfl) fun hvv => br_intro (fun _ => rfl) fun hl => ?_⟩)
  have hvv : v = true := by simpa using hvv
  obtain ⟨q0, q1, q2, q3, q4, q5⟩ := hv hvv
  have hl := of_decide_eq_false hl
  intro n' pi' e' g' fi' nl' qs hm
  have hc : s_confOk n' pi' e' g' fi' (List.map (fun r => (r.getD (0 : Nat) AV.gone).toI) (List.map (fun n => [AV.int IntKind.i64 n]) qs)) = true := cfMade_ok hm
  have hn := hm.1
  have hn2 := hm.2.1
  clear hm
  refine hyp_iff.2 ⟨⟨hc, hb, hn0, by omega⟩, fun nl'' on dr er ca ac dv k' a' f' t' z' ho => ?_⟩
  obtain ⟨o1, o2, o3, o4, o5, o6⟩ := ho
  have hps : ((List.map (fun n => [AV.int IntKind.i64 n]) qs).length : Int) ≤ 1000000 := by
    have := (confOk_n hc).2.2
    simp only [List.length_map] at this ⊢
    omega
  have m4 := rem_lt num (show (0 : Int) < 4 by omega)
  have m3 := rem_lt num (show (0 : Int) < 3 by omega)
  have mN := rem_lt num (show (0 : Int) < (on.length : Int) by omega)
  have mQ := rem_lt (IntKind.i64.wrap (num.tdiv (16 : Int))) (show (0 : Int) < 4 by omega)
  have w59 : IntKind.i64.wrap (59 + s_rem num 3) = 59 + s_rem num 3 := wr (by omega) (by omega)
  have w99 : IntKind.i64.wrap (99 + s_rem num 3) = 99 + s_rem num 3 := wr (by omega) (by omega)
  simp only [chk_iff, hyp_iff, w59, w99, Nat.zero_add, List.nil_append, List.drop_zero, List.take_length, List.length_set, List.length_append, List.length_replicate, List.length_cons, List.length_nil]
  refine ⟨fun h0 => ⟨?_, ?_, br_intro (fun hx => ?_) fun _ => ?_⟩, ?_, ?_, br_intro (fun hx => ?_) fun _ => ?_⟩
  all_goals try omega
  all_goals try (exact absurd hx (by simp))
  all_goals repeat' (first | exact beq_leaf | exact True.intro | refine br_intro (fun _ => ?_) fun _ => ?_ | refine ⟨?_, ?_⟩ | omega | (simp only [List.length_take, List.length_append, List.length_set, List.length_replicate]; omega))
end Go.Proofs.YthihinlamlamhaaE
