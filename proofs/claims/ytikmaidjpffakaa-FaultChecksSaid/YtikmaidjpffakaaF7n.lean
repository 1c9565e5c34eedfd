/- What path mode says of functions, printed by a program of this session; the kernel holds each. -/
import Derived.Test.YtikmaidjpffakaaF7d
import Derived.KernelRfl
namespace Go.Proofs.YtikmaidjpffakaaE
open Go
set_option maxRecDepth 100000
set_option linter.unusedVariables false
theorem nf42 (nl : Bool) (rs : List (List AV)) (Q : AV × List AObj → Prop) : inlW Try.prog H0 S10L 6 (InO Try.prog H0 S10L 6 6) 42 [.row nl [.int .i64, .int .i64, .str] rs, .fn (.func 43) [] []] [] Q = (
((Hyp ((↑rs.length : Int) = (↑rs.length : Int) ∧
  (0 : Int) ≤ (0 : Int) ∧
    (0 : Int) ≤ (↑rs.length : Int) ∧
      rs.length ≤ (9223372036854775807 : Nat) ∧
        ∀ (r : List AV), r ∈ List.take (Int.toNat (0 : Int)) rs → ¬(1000 : Nat) < (actText r).size)) ∧
(((((s_long rs = false) →
Q ((AV.bool false, [])))) ∧
((∀ (j102 : Int),
(((0 : Int) ≤ j102) →
((s_long rs = true) →
Q ((AV.bool (decide (j102 ≥ (0 : Int))), [])))))))))) := by kernel_rfl
theorem nf64a (m i : Int) (nl : Bool) (rs : List (List AV)) (Q : Ex → List AV → List AObj → Prop) : lpBody Try.prog H0 S9 6 6 64 2 [.row nl [.int .i64, .int .i64, .str] rs, .fn (.func 43) [] [], .int .i64 m, .int .i64 i] [] Q = (
br (decide (i < m))
 (chk ((0 : Int) ≤ i ∧ i < (↑rs.length : Int)) (br (decide ((↑((rs.getD i.toNat []).getD (2 : Nat) AV.gone).toS.size : Int) > (1000 : Int)))
  (Q (Ex.ret) ([AV.int IntKind.i64 i]) ([]))
  (Q (Ex.nrm) ([AV.row nl [K.int IntKind.i64, K.int IntKind.i64, K.str] rs, AV.fn (Fn.func (43 : Nat)) [] [], AV.int IntKind.i64 m,
  AV.int IntKind.i64 (IntKind.i64.wrap (i + (1 : Int)))]) ([]))))
 (Q (Ex.exit (0 : Nat)) ([]) ([]))) := by kernel_rfl
theorem nf16 (n pi e g fi k a f t : Int) (nl nl1 nl2 : Bool) (rs acts ds : List (List AV)) (Q : AV × List AObj → Prop) : inlW Try.prog H0 S10L 6 (InO Try.prog H0 S10L 6 6) 16 [cf n pi e g fi nl rs, .agg [.int .i64 k, .int .i64 a, .int .i64 f, .int .i64 t, .row nl1 [.int .i64, .int .i64, .str] acts, .row nl2 [.int .i64] ds]] [] Q = (
br (k == (0 : Int))
 (br (decide (a < (0 : Int)))
  (Q ((AV.int IntKind.i64 (1 : Int), [])))
  (br (decide (a ≥ (1 : Int)))
   (Q ((AV.int IntKind.i64 (1 : Int), [])))
   (br (decide (f < (0 : Int)))
    (Q ((AV.int IntKind.i64 (1 : Int), [])))
    (br (decide (f > (1000 : Int)))
     (Q ((AV.int IntKind.i64 (1 : Int), [])))
     (br (decide (t < f))
      (Q ((AV.int IntKind.i64 (1 : Int), [])))
      (br (decide (t > (1000 : Int)))
       (Q ((AV.int IntKind.i64 (1 : Int), [])))
       (br (decide ((↑acts.length : Int) > (40 : Int)))
        (Q ((AV.int IntKind.i64 (2 : Int), [])))
        (br (decide ((↑ds.length : Int) > (40 : Int)))
         (Q ((AV.int IntKind.i64 (2 : Int), [])))
         (((Hyp ((0 : Int) ≤ (0 : Int) ∧
  (0 : Int) ≤ (↑acts.length : Int) ∧
    acts.length ≤ (9223372036854775807 : Nat) ∧
      ∀ (r : List AV), r ∈ List.take (Int.toNat (0 : Int)) acts → ¬(1000 : Nat) < (actText r).size)) ∧
         (((((s_long acts = false) →
         Q ((AV.int IntKind.i64 (0 : Int), [])))) ∧
         (((s_long acts = true) →
         Q ((AV.int IntKind.i64 (2 : Int), []))))))))))))))))
 (br (k == (1 : Int))
  (br (decide (a < (0 : Int)))
   (Q ((AV.int IntKind.i64 (1 : Int), [])))
   (br (decide (a ≥ n))
    (Q ((AV.int IntKind.i64 (1 : Int), [])))
    (br (decide (f < (0 : Int)))
     (Q ((AV.int IntKind.i64 (1 : Int), [])))
     (br (decide (f > (1000 : Int)))
      (Q ((AV.int IntKind.i64 (1 : Int), [])))
      (br (decide (t < f))
       (Q ((AV.int IntKind.i64 (1 : Int), [])))
       (br (decide (t > (1000 : Int)))
        (Q ((AV.int IntKind.i64 (1 : Int), [])))
        (br (decide ((↑acts.length : Int) > (40 : Int)))
         (Q ((AV.int IntKind.i64 (2 : Int), [])))
         (br (decide ((↑ds.length : Int) > (40 : Int)))
          (Q ((AV.int IntKind.i64 (2 : Int), [])))
          (((Hyp ((0 : Int) ≤ (0 : Int) ∧
  (0 : Int) ≤ (↑acts.length : Int) ∧
    acts.length ≤ (9223372036854775807 : Nat) ∧
      ∀ (r : List AV), r ∈ List.take (Int.toNat (0 : Int)) acts → ¬(1000 : Nat) < (actText r).size)) ∧
          (((((s_long acts = false) →
          Q ((AV.int IntKind.i64 (0 : Int), [])))) ∧
          (((s_long acts = true) →
          Q ((AV.int IntKind.i64 (2 : Int), []))))))))))))))))
  (br (k == (2 : Int))
   (br (decide (a < (0 : Int)))
    (Q ((AV.int IntKind.i64 (1 : Int), [])))
    (br (decide (a ≥ IntKind.i64.wrap ((2 : Int) * n)))
     (Q ((AV.int IntKind.i64 (1 : Int), [])))
     (br (decide (f < (0 : Int)))
      (Q ((AV.int IntKind.i64 (1 : Int), [])))
      (br (decide (f > (1000 : Int)))
       (Q ((AV.int IntKind.i64 (1 : Int), [])))
       (br (decide (t < f))
        (Q ((AV.int IntKind.i64 (1 : Int), [])))
        (br (decide (t > (1000 : Int)))
         (Q ((AV.int IntKind.i64 (1 : Int), [])))
         (br (decide ((↑acts.length : Int) > (40 : Int)))
          (Q ((AV.int IntKind.i64 (2 : Int), [])))
          (br (decide ((↑ds.length : Int) > (40 : Int)))
           (Q ((AV.int IntKind.i64 (2 : Int), [])))
           (((Hyp ((0 : Int) ≤ (0 : Int) ∧
  (0 : Int) ≤ (↑acts.length : Int) ∧
    acts.length ≤ (9223372036854775807 : Nat) ∧
      ∀ (r : List AV), r ∈ List.take (Int.toNat (0 : Int)) acts → ¬(1000 : Nat) < (actText r).size)) ∧
           (((((s_long acts = false) →
           Q ((AV.int IntKind.i64 (0 : Int), [])))) ∧
           (((s_long acts = true) →
           Q ((AV.int IntKind.i64 (2 : Int), []))))))))))))))))
   (Q ((AV.int IntKind.i64 (6 : Int), [])))))) := by kernel_rfl
theorem nf16a (i k a f t : Int) (nl nl2 : Bool) (rs ds : List (List AV)) (Q : Ex → List AV → List AObj → Prop) : lpBody Try.prog H0 S9 6 6 16 14 [.ptr 0 0, .int .i64 i] [.box [.int .i64 k, .int .i64 a, .int .i64 f, .int .i64 t, .row nl [.int .i64, .int .i64, .str] rs, .row nl2 [.int .i64] ds]] Q = (
br (decide (i < (↑rs.length : Int)))
 (chk ((0 : Int) ≤ i ∧ i < (↑rs.length : Int)) (br (decide ((↑((rs.getD i.toNat []).getD (2 : Nat) AV.gone).toS.size : Int) > (1000 : Int)))
  (Q (Ex.ret) ([AV.int IntKind.i64 (2 : Int)]) ([]))
  (Q (Ex.nrm) ([AV.ptr (0 : Nat) (0 : Nat), AV.int IntKind.i64 (IntKind.i64.wrap (i + (1 : Int)))]) ([AObj.box
    [AV.int IntKind.i64 k, AV.int IntKind.i64 a, AV.int IntKind.i64 f, AV.int IntKind.i64 t,
      AV.row nl [K.int IntKind.i64, K.int IntKind.i64, K.str] rs, AV.row nl2 [K.int IntKind.i64] ds]]))))
 (Q (Ex.exit (1 : Nat)) ([]) ([]))) := by kernel_rfl
theorem nf15 (n pi e g fi k a f t : Int) (nl nl1 nl2 : Bool) (rs acts ds : List (List AV)) (Q : AV × List AObj → Prop) : inlW Try.prog H0 S10 6 (InO Try.prog H0 S10 6 6) 15 [cf n pi e g fi nl rs, .agg [.int .i64 k, .int .i64 a, .int .i64 f, .int .i64 t, .row nl1 [.int .i64, .int .i64, .str] acts, .row nl2 [.int .i64] ds]] [] Q = (
br (decide (k < (0 : Int)))
 (Q ((AV.int IntKind.i64 (6 : Int), [])))
 (br (decide (k > (2 : Int)))
  (Q ((AV.int IntKind.i64 (6 : Int), [])))
  (br (decide (a < (0 : Int)))
   (Q ((AV.int IntKind.i64 (1 : Int), [])))
   (br (k == (1 : Int))
    (br (decide (a ≥ n))
     (Q ((AV.int IntKind.i64 (1 : Int), [])))
     (br (decide (f < (0 : Int)))
      (Q ((AV.int IntKind.i64 (1 : Int), [])))
      (br (decide (t > (1000 : Int)))
       (Q ((AV.int IntKind.i64 (1 : Int), [])))
       (br (decide (t < f))
        (Q ((AV.int IntKind.i64 (1 : Int), [])))
        (br (decide ((↑acts.length : Int) > (40 : Int)))
         (Q ((AV.int IntKind.i64 (2 : Int), [])))
         (br (decide ((↑ds.length : Int) > (40 : Int)))
          (Q ((AV.int IntKind.i64 (2 : Int), [])))
          (((Hyp (acts.length ≤ (9223372036854775807 : Nat))) ∧
          (br (s_long acts)
           (Q ((AV.int IntKind.i64 (2 : Int), [])))
           (Q ((AV.int IntKind.i64 (0 : Int), []))))))))))))
    (br (k == (2 : Int))
     (br (decide (a ≥ IntKind.i64.wrap ((2 : Int) * n)))
      (Q ((AV.int IntKind.i64 (1 : Int), [])))
      (br (decide (f < (0 : Int)))
       (Q ((AV.int IntKind.i64 (1 : Int), [])))
       (br (decide (t > (1000 : Int)))
        (Q ((AV.int IntKind.i64 (1 : Int), [])))
        (br (decide (t < f))
         (Q ((AV.int IntKind.i64 (1 : Int), [])))
         (br (decide ((↑acts.length : Int) > (40 : Int)))
          (Q ((AV.int IntKind.i64 (2 : Int), [])))
          (br (decide ((↑ds.length : Int) > (40 : Int)))
           (Q ((AV.int IntKind.i64 (2 : Int), [])))
           (((Hyp (acts.length ≤ (9223372036854775807 : Nat))) ∧
           (br (s_long acts)
            (Q ((AV.int IntKind.i64 (2 : Int), [])))
            (Q ((AV.int IntKind.i64 (0 : Int), []))))))))))))
     (br (decide (a ≥ (1 : Int)))
      (Q ((AV.int IntKind.i64 (1 : Int), [])))
      (br (decide (f < (0 : Int)))
       (Q ((AV.int IntKind.i64 (1 : Int), [])))
       (br (decide (t > (1000 : Int)))
        (Q ((AV.int IntKind.i64 (1 : Int), [])))
        (br (decide (t < f))
         (Q ((AV.int IntKind.i64 (1 : Int), [])))
         (br (decide ((↑acts.length : Int) > (40 : Int)))
          (Q ((AV.int IntKind.i64 (2 : Int), [])))
          (br (decide ((↑ds.length : Int) > (40 : Int)))
           (Q ((AV.int IntKind.i64 (2 : Int), [])))
           (((Hyp (acts.length ≤ (9223372036854775807 : Nat))) ∧
           (br (s_long acts)
            (Q ((AV.int IntKind.i64 (2 : Int), [])))
            (Q ((AV.int IntKind.i64 (0 : Int), []))))))))))))))))) := by kernel_rfl
theorem nf38 (n pi e g fi k a f t ro ow no de : Int) (nl nl1 nl2 : Bool) (rs acts ds : List (List AV)) (Q : AV × List AObj → Prop) : inlW Try.prog H0 S9 6 (InO Try.prog H0 S9 6 6) 38 [cf n pi e g fi nl rs, .agg [.int .i64 k, .int .i64 a, .int .i64 f, .int .i64 t, .row nl1 [.int .i64, .int .i64, .str] acts, .row nl2 [.int .i64] ds], .int .i64 ro, .int .i64 ow, .int .i64 no, .int .i64 de] [] Q = (
br (k == (1 : Int))
 (br (!ow == a)
  (Q ((AV.int IntKind.i64 de, [])))
  (br (decide (ro < f))
   (Q ((AV.int IntKind.i64 de, [])))
   (br (decide (ro ≥ t))
    (Q ((AV.int IntKind.i64 de, [])))
    (chk ((↑ds.length : Int) ≤ (4611686018427387904 : Int)) (br (decide ((↑ds.length : Int) ≤ (0 : Int)))
     (Q ((AV.int IntKind.i64 (0 : Int), [])))
     (br (decide ((↑ds.length : Int) = (1 : Int)))
      (chk ((0 : Int) ≤ (0 : Int) ∧ (0 : Int) < (↑ds.length : Int)) (Q ((AV.int IntKind.i64
    (if
        IntKind.i64.wrap ((3 : Int) * IntKind.i64.wrap ((2 : Int) * pi)) <
          if
              IntKind.i64.wrap ((0 : Int) - IntKind.i64.wrap ((3 : Int) * IntKind.i64.wrap ((2 : Int) * pi))) >
                ((ds.getD (0 : Nat) []).getD (0 : Nat) AV.gone).toI then
            IntKind.i64.wrap ((0 : Int) - IntKind.i64.wrap ((3 : Int) * IntKind.i64.wrap ((2 : Int) * pi)))
          else ((ds.getD (0 : Nat) []).getD (0 : Nat) AV.gone).toI then
      IntKind.i64.wrap ((3 : Int) * IntKind.i64.wrap ((2 : Int) * pi))
    else
      if
          IntKind.i64.wrap ((0 : Int) - IntKind.i64.wrap ((3 : Int) * IntKind.i64.wrap ((2 : Int) * pi))) >
            ((ds.getD (0 : Nat) []).getD (0 : Nat) AV.gone).toI then
        IntKind.i64.wrap ((0 : Int) - IntKind.i64.wrap ((3 : Int) * IntKind.i64.wrap ((2 : Int) * pi)))
      else ((ds.getD (0 : Nat) []).getD (0 : Nat) AV.gone).toI),
  []))))
      (br (decide (s_rem (IntKind.i64.wrap (IntKind.i64.wrap ((13 : Int) * ro) + no)) (↑ds.length : Int) < (0 : Int)))
       (Q ((AV.int IntKind.i64 (0 : Int), [])))
       (chk ((0 : Int) ≤ s_rem (IntKind.i64.wrap (IntKind.i64.wrap ((13 : Int) * ro) + no)) (↑ds.length : Int) ∧
  s_rem (IntKind.i64.wrap (IntKind.i64.wrap ((13 : Int) * ro) + no)) (↑ds.length : Int) < (↑ds.length : Int)) (Q ((AV.int IntKind.i64
    (if
        IntKind.i64.wrap ((3 : Int) * IntKind.i64.wrap ((2 : Int) * pi)) <
          if
              IntKind.i64.wrap ((0 : Int) - IntKind.i64.wrap ((3 : Int) * IntKind.i64.wrap ((2 : Int) * pi))) >
                ((ds.getD (s_rem (IntKind.i64.wrap (IntKind.i64.wrap ((13 : Int) * ro) + no)) (↑ds.length : Int)).toNat
                        []).getD
                    (0 : Nat) AV.gone).toI then
            IntKind.i64.wrap ((0 : Int) - IntKind.i64.wrap ((3 : Int) * IntKind.i64.wrap ((2 : Int) * pi)))
          else
            ((ds.getD (s_rem (IntKind.i64.wrap (IntKind.i64.wrap ((13 : Int) * ro) + no)) (↑ds.length : Int)).toNat
                    []).getD
                (0 : Nat) AV.gone).toI then
      IntKind.i64.wrap ((3 : Int) * IntKind.i64.wrap ((2 : Int) * pi))
    else
      if
          IntKind.i64.wrap ((0 : Int) - IntKind.i64.wrap ((3 : Int) * IntKind.i64.wrap ((2 : Int) * pi))) >
            ((ds.getD (s_rem (IntKind.i64.wrap (IntKind.i64.wrap ((13 : Int) * ro) + no)) (↑ds.length : Int)).toNat
                    []).getD
                (0 : Nat) AV.gone).toI then
        IntKind.i64.wrap ((0 : Int) - IntKind.i64.wrap ((3 : Int) * IntKind.i64.wrap ((2 : Int) * pi)))
      else
        ((ds.getD (s_rem (IntKind.i64.wrap (IntKind.i64.wrap ((13 : Int) * ro) + no)) (↑ds.length : Int)).toNat []).getD
            (0 : Nat) AV.gone).toI),
  [])))))))))))
 (br (k == (2 : Int))
  (Q ((AV.int IntKind.i64 de, [])))
  (Q ((AV.int IntKind.i64 de, []))))) := by kernel_rfl
theorem nf39 (n pi e g fi k a f t ro ow no de : Int) (nl nl1 nl2 : Bool) (rs acts ds : List (List AV)) (Q : AV × List AObj → Prop) : inlW Try.prog H0 S9 6 (InO Try.prog H0 S9 6 6) 39 [cf n pi e g fi nl rs, .agg [.int .i64 k, .int .i64 a, .int .i64 f, .int .i64 t, .row nl1 [.int .i64, .int .i64, .str] acts, .row nl2 [.int .i64] ds], .int .i64 ro, .int .i64 ow, .int .i64 no, .int .i64 de] [] Q = (
br (k != (1 : Int))
 (Q ((AV.int IntKind.i64 de, [])))
 (br (ow != a)
  (Q ((AV.int IntKind.i64 de, [])))
  (br (decide (ro < f))
   (Q ((AV.int IntKind.i64 de, [])))
   (br (decide (ro ≥ t))
    (Q ((AV.int IntKind.i64 de, [])))
    (br ((↑ds.length : Int) == (0 : Int))
     (Q ((AV.int IntKind.i64 (0 : Int), [])))
     (chk ((0 : Int) < (↑ds.length : Int) ∧ (↑ds.length : Int) < (9223372036854775808 : Int)) (chk ((0 : Int) ≤ s_rem (IntKind.i64.wrap (IntKind.i64.wrap ((13 : Int) * ro) + no)) (↑ds.length : Int) ∧
  s_rem (IntKind.i64.wrap (IntKind.i64.wrap ((13 : Int) * ro) + no)) (↑ds.length : Int) < (↑ds.length : Int)) (Q ((AV.int IntKind.i64
    (if
        (if
              ((ds.getD (s_rem (IntKind.i64.wrap (IntKind.i64.wrap ((13 : Int) * ro) + no)) (↑ds.length : Int)).toNat
                        []).getD
                    (0 : Nat) AV.gone).toI <
                IntKind.i64.wrap ((3 : Int) * IntKind.i64.wrap ((2 : Int) * pi)) then
            ((ds.getD (s_rem (IntKind.i64.wrap (IntKind.i64.wrap ((13 : Int) * ro) + no)) (↑ds.length : Int)).toNat
                    []).getD
                (0 : Nat) AV.gone).toI
          else IntKind.i64.wrap ((3 : Int) * IntKind.i64.wrap ((2 : Int) * pi))) >
          IntKind.i64.wrap ((0 : Int) - IntKind.i64.wrap ((3 : Int) * IntKind.i64.wrap ((2 : Int) * pi))) then
      if
          ((ds.getD (s_rem (IntKind.i64.wrap (IntKind.i64.wrap ((13 : Int) * ro) + no)) (↑ds.length : Int)).toNat
                    []).getD
                (0 : Nat) AV.gone).toI <
            IntKind.i64.wrap ((3 : Int) * IntKind.i64.wrap ((2 : Int) * pi)) then
        ((ds.getD (s_rem (IntKind.i64.wrap (IntKind.i64.wrap ((13 : Int) * ro) + no)) (↑ds.length : Int)).toNat []).getD
            (0 : Nat) AV.gone).toI
      else IntKind.i64.wrap ((3 : Int) * IntKind.i64.wrap ((2 : Int) * pi))
    else IntKind.i64.wrap ((0 : Int) - IntKind.i64.wrap ((3 : Int) * IntKind.i64.wrap ((2 : Int) * pi)))),
  [])))))))))) := by kernel_rfl
end Go.Proofs.YtikmaidjpffakaaE
