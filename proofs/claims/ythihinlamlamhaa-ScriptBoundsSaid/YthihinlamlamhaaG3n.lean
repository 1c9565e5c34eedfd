/- What path mode says of functions, printed by a program of this session; the kernel holds each. -/
import Derived.Test.YthihinlamlamhaaG3d
import Derived.KernelRfl
namespace Go.Proofs.YthihinlamlamhaaE
open Go
set_option maxRecDepth 100000
set_option linter.unusedVariables false
theorem nf26 (n pi e g fi : Int) (nl nl2 : Bool) (ps rs : List (List AV)) (Q : AV × List AObj → Prop) : inlW Try.prog H0 S4 6 (InO Try.prog H0 S4 6 6) 26 [.ptr 0 0, cf n pi e g fi nl ps] [.box [.row nl2 [.int .u8] rs]] Q = (
chk (n ≠ (0 : Int)) (chk (IntKind.i64.wrap ((1 : Int) + (↑ps.length : Int)) ≠ (0 : Int)) (Q ((AV.agg
    [AV.int IntKind.i64 ((s_hd rs).tmod (60 : Int)), AV.int IntKind.i64 ((s_hd (s_drop (1 : Nat) rs)).tmod n),
      AV.int IntKind.i64
        ((s_hd (s_drop (1 : Nat) (s_drop (1 : Nat) rs))).tmod (IntKind.i64.wrap ((1 : Int) + (↑ps.length : Int)))),
      AV.int IntKind.i64 (s_hd (s_drop (1 : Nat) (s_drop (1 : Nat) (s_drop (1 : Nat) rs))))],
  [AObj.box
      [AV.row nl2 [K.int IntKind.u8] (s_drop (1 : Nat) (s_drop (1 : Nat) (s_drop (1 : Nat) (s_drop (1 : Nat) rs))))]]))))) := by kernel_rfl
theorem nf25 (n pi e g fi : Int) (nl nl2 : Bool) (ps rs : List (List AV)) (Q : AV × List AObj → Prop) : inlW Try.prog H0 S4L 6 (InO Try.prog H0 S4L 6 6) 25 [.ptr 0 0, cf n pi e g fi nl ps] [.box [.row nl2 [.int .u8] rs]] Q = (
br ((s_hd rs).tmod (3 : Int) == (2 : Int))
 (chk (IntKind.i64.wrap ((2 : Int) * n) ≠ (0 : Int)) (chk ((0 : Int) ≤ (s_hd (s_drop (1 : Nat) (s_drop (1 : Nat) (s_drop (1 : Nat) (s_drop (1 : Nat) rs))))).tmod (8 : Int) ∧
  (s_hd (s_drop (1 : Nat) (s_drop (1 : Nat) (s_drop (1 : Nat) (s_drop (1 : Nat) rs))))).tmod (8 : Int) ≤
      (s_hd (s_drop (1 : Nat) (s_drop (1 : Nat) (s_drop (1 : Nat) (s_drop (1 : Nat) rs))))).tmod (8 : Int) ∧
    (↑(32 : Nat) : Int) *
        (s_hd (s_drop (1 : Nat) (s_drop (1 : Nat) (s_drop (1 : Nat) (s_drop (1 : Nat) rs))))).tmod (8 : Int) ≤
      (140737488355328 : Int)) (chk ((s_hd (s_drop (1 : Nat) (s_drop (1 : Nat) (s_drop (1 : Nat) (s_drop (1 : Nat) rs))))).tmod (8 : Int) ≤
  (9223372036854775807 : Int)) (((Hyp ((↑((s_hd (s_drop (1 : Nat) (s_drop (1 : Nat) (s_drop (1 : Nat) (s_drop (1 : Nat) rs))))).tmod (8 : Int)).toNat : Int) =
    (↑((s_hd (s_drop (1 : Nat) (s_drop (1 : Nat) (s_drop (1 : Nat) (s_drop (1 : Nat) rs))))).tmod (8 : Int)).toNat :
      Int) ∧
  (0 : Int) ≤ (0 : Int) ∧
    (0 : Int) ≤
        (↑((s_hd (s_drop (1 : Nat) (s_drop (1 : Nat) (s_drop (1 : Nat) (s_drop (1 : Nat) rs))))).tmod (8 : Int)).toNat :
          Int) ∧
      ((s_hd (s_drop (1 : Nat) (s_drop (1 : Nat) (s_drop (1 : Nat) (s_drop (1 : Nat) rs))))).tmod (8 : Int)).toNat ≤
          (100 : Nat) ∧
        (List.replicate
                ((s_hd (s_drop (1 : Nat) (s_drop (1 : Nat) (s_drop (1 : Nat) (s_drop (1 : Nat) rs))))).tmod
                    (8 : Int)).toNat
                [AV.int IntKind.i64 (0 : Int), AV.int IntKind.i64 (0 : Int), AV.str (ByteArray.mk #[])]).length =
            ((s_hd (s_drop (1 : Nat) (s_drop (1 : Nat) (s_drop (1 : Nat) (s_drop (1 : Nat) rs))))).tmod
                (8 : Int)).toNat ∧
          s_len3
              (List.replicate
                ((s_hd (s_drop (1 : Nat) (s_drop (1 : Nat) (s_drop (1 : Nat) (s_drop (1 : Nat) rs))))).tmod
                    (8 : Int)).toNat
                [AV.int IntKind.i64 (0 : Int), AV.int IntKind.i64 (0 : Int), AV.str (ByteArray.mk #[])]) ∧
            s_bytes (s_drop (1 : Nat) (s_drop (1 : Nat) (s_drop (1 : Nat) (s_drop (1 : Nat) (s_drop (1 : Nat) rs))))))) ∧
 ((∀ (rows'105 : List (List AV)),
 ((rows'105 =
  [] ++
    s_acts (s_drop (1 : Nat) (s_drop (1 : Nat) (s_drop (1 : Nat) (s_drop (1 : Nat) (s_drop (1 : Nat) rs)))))
      (((s_hd (s_drop (1 : Nat) (s_drop (1 : Nat) (s_drop (1 : Nat) (s_drop (1 : Nat) rs))))).tmod (8 : Int)).toNat -
        (0 : Nat))) →
 ((Hyp ((0 : Int) ≤ (4 : Int) ∧ (4 : Int) ≤ (100 : Int))) ∧
 (chk ((0 : Nat) +
    ((s_hd (s_drop (1 : Nat) (s_drop (1 : Nat) (s_drop (1 : Nat) (s_drop (1 : Nat) rs))))).tmod (8 : Int)).toNat ≤
  rows'105.length) (Q ((AV.agg
    [AV.int IntKind.i64 ((s_hd rs).tmod (3 : Int)),
      AV.int IntKind.i64 ((s_hd (s_drop (1 : Nat) rs)).tmod (IntKind.i64.wrap ((2 : Int) * n))),
      AV.int IntKind.i64 ((s_hd (s_drop (1 : Nat) (s_drop (1 : Nat) rs))).tmod (60 : Int)),
      AV.int IntKind.i64
        (IntKind.i64.wrap
          ((s_hd (s_drop (1 : Nat) (s_drop (1 : Nat) rs))).tmod (60 : Int) +
            (s_hd (s_drop (1 : Nat) (s_drop (1 : Nat) (s_drop (1 : Nat) rs)))).tmod (60 : Int))),
      AV.row false [K.int IntKind.i64, K.int IntKind.i64, K.str]
        (List.take
          ((s_hd (s_drop (1 : Nat) (s_drop (1 : Nat) (s_drop (1 : Nat) (s_drop (1 : Nat) rs))))).tmod (8 : Int)).toNat
          (List.drop (0 : Nat) rows'105)),
      AV.row false [K.int IntKind.i64]
        [[AV.int IntKind.i64
              (IntKind.i64.wrap
                (IntKind.i64.wrap
                    (s_at
                        (s_drop
                          (s_actsN
                            (s_drop (1 : Nat)
                              (s_drop (1 : Nat) (s_drop (1 : Nat) (s_drop (1 : Nat) (s_drop (1 : Nat) rs)))))
                            (((s_hd (s_drop (1 : Nat) (s_drop (1 : Nat) (s_drop (1 : Nat) (s_drop (1 : Nat) rs))))).tmod
                                  (8 : Int)).toNat -
                              (0 : Nat)))
                          (s_drop (1 : Nat)
                            (s_drop (1 : Nat) (s_drop (1 : Nat) (s_drop (1 : Nat) (s_drop (1 : Nat) rs))))))
                        (0 : Nat) -
                      (128 : Int)) *
                  (8 : Int)))],
          [AV.int IntKind.i64
              (IntKind.i64.wrap
                (IntKind.i64.wrap
                    (s_at
                        (s_drop
                          (s_actsN
                            (s_drop (1 : Nat)
                              (s_drop (1 : Nat) (s_drop (1 : Nat) (s_drop (1 : Nat) (s_drop (1 : Nat) rs)))))
                            (((s_hd (s_drop (1 : Nat) (s_drop (1 : Nat) (s_drop (1 : Nat) (s_drop (1 : Nat) rs))))).tmod
                                  (8 : Int)).toNat -
                              (0 : Nat)))
                          (s_drop (1 : Nat)
                            (s_drop (1 : Nat) (s_drop (1 : Nat) (s_drop (1 : Nat) (s_drop (1 : Nat) rs))))))
                        (1 : Nat) -
                      (128 : Int)) *
                  (8 : Int)))],
          [AV.int IntKind.i64
              (IntKind.i64.wrap
                (IntKind.i64.wrap
                    (s_at
                        (s_drop
                          (s_actsN
                            (s_drop (1 : Nat)
                              (s_drop (1 : Nat) (s_drop (1 : Nat) (s_drop (1 : Nat) (s_drop (1 : Nat) rs)))))
                            (((s_hd (s_drop (1 : Nat) (s_drop (1 : Nat) (s_drop (1 : Nat) (s_drop (1 : Nat) rs))))).tmod
                                  (8 : Int)).toNat -
                              (0 : Nat)))
                          (s_drop (1 : Nat)
                            (s_drop (1 : Nat) (s_drop (1 : Nat) (s_drop (1 : Nat) (s_drop (1 : Nat) rs))))))
                        (2 : Nat) -
                      (128 : Int)) *
                  (8 : Int)))],
          [AV.int IntKind.i64
              (IntKind.i64.wrap
                (IntKind.i64.wrap
                    (s_at
                        (s_drop
                          (s_actsN
                            (s_drop (1 : Nat)
                              (s_drop (1 : Nat) (s_drop (1 : Nat) (s_drop (1 : Nat) (s_drop (1 : Nat) rs)))))
                            (((s_hd (s_drop (1 : Nat) (s_drop (1 : Nat) (s_drop (1 : Nat) (s_drop (1 : Nat) rs))))).tmod
                                  (8 : Int)).toNat -
                              (0 : Nat)))
                          (s_drop (1 : Nat)
                            (s_drop (1 : Nat) (s_drop (1 : Nat) (s_drop (1 : Nat) (s_drop (1 : Nat) rs))))))
                        (3 : Nat) -
                      (128 : Int)) *
                  (8 : Int)))]]],
  [AObj.box
      [AV.row nl2 [K.int IntKind.u8]
          (s_drop (4 : Nat)
            (s_drop
              (s_actsN (s_drop (1 : Nat) (s_drop (1 : Nat) (s_drop (1 : Nat) (s_drop (1 : Nat) (s_drop (1 : Nat) rs)))))
                (((s_hd (s_drop (1 : Nat) (s_drop (1 : Nat) (s_drop (1 : Nat) (s_drop (1 : Nat) rs))))).tmod
                      (8 : Int)).toNat -
                  (0 : Nat)))
              (s_drop (1 : Nat) (s_drop (1 : Nat) (s_drop (1 : Nat) (s_drop (1 : Nat) (s_drop (1 : Nat) rs)))))))]])))))))))))))
 (br ((s_hd rs).tmod (3 : Int) == (1 : Int))
  (chk (n ≠ (0 : Int)) (chk ((0 : Int) ≤ (s_hd (s_drop (1 : Nat) (s_drop (1 : Nat) (s_drop (1 : Nat) (s_drop (1 : Nat) rs))))).tmod (8 : Int) ∧
  (s_hd (s_drop (1 : Nat) (s_drop (1 : Nat) (s_drop (1 : Nat) (s_drop (1 : Nat) rs))))).tmod (8 : Int) ≤
      (s_hd (s_drop (1 : Nat) (s_drop (1 : Nat) (s_drop (1 : Nat) (s_drop (1 : Nat) rs))))).tmod (8 : Int) ∧
    (↑(32 : Nat) : Int) *
        (s_hd (s_drop (1 : Nat) (s_drop (1 : Nat) (s_drop (1 : Nat) (s_drop (1 : Nat) rs))))).tmod (8 : Int) ≤
      (140737488355328 : Int)) (chk ((s_hd (s_drop (1 : Nat) (s_drop (1 : Nat) (s_drop (1 : Nat) (s_drop (1 : Nat) rs))))).tmod (8 : Int) ≤
  (9223372036854775807 : Int)) (((Hyp ((↑((s_hd (s_drop (1 : Nat) (s_drop (1 : Nat) (s_drop (1 : Nat) (s_drop (1 : Nat) rs))))).tmod (8 : Int)).toNat : Int) =
    (↑((s_hd (s_drop (1 : Nat) (s_drop (1 : Nat) (s_drop (1 : Nat) (s_drop (1 : Nat) rs))))).tmod (8 : Int)).toNat :
      Int) ∧
  (0 : Int) ≤ (0 : Int) ∧
    (0 : Int) ≤
        (↑((s_hd (s_drop (1 : Nat) (s_drop (1 : Nat) (s_drop (1 : Nat) (s_drop (1 : Nat) rs))))).tmod (8 : Int)).toNat :
          Int) ∧
      ((s_hd (s_drop (1 : Nat) (s_drop (1 : Nat) (s_drop (1 : Nat) (s_drop (1 : Nat) rs))))).tmod (8 : Int)).toNat ≤
          (100 : Nat) ∧
        (List.replicate
                ((s_hd (s_drop (1 : Nat) (s_drop (1 : Nat) (s_drop (1 : Nat) (s_drop (1 : Nat) rs))))).tmod
                    (8 : Int)).toNat
                [AV.int IntKind.i64 (0 : Int), AV.int IntKind.i64 (0 : Int), AV.str (ByteArray.mk #[])]).length =
            ((s_hd (s_drop (1 : Nat) (s_drop (1 : Nat) (s_drop (1 : Nat) (s_drop (1 : Nat) rs))))).tmod
                (8 : Int)).toNat ∧
          s_len3
              (List.replicate
                ((s_hd (s_drop (1 : Nat) (s_drop (1 : Nat) (s_drop (1 : Nat) (s_drop (1 : Nat) rs))))).tmod
                    (8 : Int)).toNat
                [AV.int IntKind.i64 (0 : Int), AV.int IntKind.i64 (0 : Int), AV.str (ByteArray.mk #[])]) ∧
            s_bytes (s_drop (1 : Nat) (s_drop (1 : Nat) (s_drop (1 : Nat) (s_drop (1 : Nat) (s_drop (1 : Nat) rs))))))) ∧
  ((∀ (rows'106 : List (List AV)),
  ((rows'106 =
  [] ++
    s_acts (s_drop (1 : Nat) (s_drop (1 : Nat) (s_drop (1 : Nat) (s_drop (1 : Nat) (s_drop (1 : Nat) rs)))))
      (((s_hd (s_drop (1 : Nat) (s_drop (1 : Nat) (s_drop (1 : Nat) (s_drop (1 : Nat) rs))))).tmod (8 : Int)).toNat -
        (0 : Nat))) →
  ((Hyp ((0 : Int) ≤ (4 : Int) ∧ (4 : Int) ≤ (100 : Int))) ∧
  (chk ((0 : Nat) +
    ((s_hd (s_drop (1 : Nat) (s_drop (1 : Nat) (s_drop (1 : Nat) (s_drop (1 : Nat) rs))))).tmod (8 : Int)).toNat ≤
  rows'106.length) (Q ((AV.agg
    [AV.int IntKind.i64 ((s_hd rs).tmod (3 : Int)), AV.int IntKind.i64 ((s_hd (s_drop (1 : Nat) rs)).tmod n),
      AV.int IntKind.i64 ((s_hd (s_drop (1 : Nat) (s_drop (1 : Nat) rs))).tmod (60 : Int)),
      AV.int IntKind.i64
        (IntKind.i64.wrap
          ((s_hd (s_drop (1 : Nat) (s_drop (1 : Nat) rs))).tmod (60 : Int) +
            (s_hd (s_drop (1 : Nat) (s_drop (1 : Nat) (s_drop (1 : Nat) rs)))).tmod (60 : Int))),
      AV.row false [K.int IntKind.i64, K.int IntKind.i64, K.str]
        (List.take
          ((s_hd (s_drop (1 : Nat) (s_drop (1 : Nat) (s_drop (1 : Nat) (s_drop (1 : Nat) rs))))).tmod (8 : Int)).toNat
          (List.drop (0 : Nat) rows'106)),
      AV.row false [K.int IntKind.i64]
        [[AV.int IntKind.i64
              (IntKind.i64.wrap
                (IntKind.i64.wrap
                    (s_at
                        (s_drop
                          (s_actsN
                            (s_drop (1 : Nat)
                              (s_drop (1 : Nat) (s_drop (1 : Nat) (s_drop (1 : Nat) (s_drop (1 : Nat) rs)))))
                            (((s_hd (s_drop (1 : Nat) (s_drop (1 : Nat) (s_drop (1 : Nat) (s_drop (1 : Nat) rs))))).tmod
                                  (8 : Int)).toNat -
                              (0 : Nat)))
                          (s_drop (1 : Nat)
                            (s_drop (1 : Nat) (s_drop (1 : Nat) (s_drop (1 : Nat) (s_drop (1 : Nat) rs))))))
                        (0 : Nat) -
                      (128 : Int)) *
                  (8 : Int)))],
          [AV.int IntKind.i64
              (IntKind.i64.wrap
                (IntKind.i64.wrap
                    (s_at
                        (s_drop
                          (s_actsN
                            (s_drop (1 : Nat)
                              (s_drop (1 : Nat) (s_drop (1 : Nat) (s_drop (1 : Nat) (s_drop (1 : Nat) rs)))))
                            (((s_hd (s_drop (1 : Nat) (s_drop (1 : Nat) (s_drop (1 : Nat) (s_drop (1 : Nat) rs))))).tmod
                                  (8 : Int)).toNat -
                              (0 : Nat)))
                          (s_drop (1 : Nat)
                            (s_drop (1 : Nat) (s_drop (1 : Nat) (s_drop (1 : Nat) (s_drop (1 : Nat) rs))))))
                        (1 : Nat) -
                      (128 : Int)) *
                  (8 : Int)))],
          [AV.int IntKind.i64
              (IntKind.i64.wrap
                (IntKind.i64.wrap
                    (s_at
                        (s_drop
                          (s_actsN
                            (s_drop (1 : Nat)
                              (s_drop (1 : Nat) (s_drop (1 : Nat) (s_drop (1 : Nat) (s_drop (1 : Nat) rs)))))
                            (((s_hd (s_drop (1 : Nat) (s_drop (1 : Nat) (s_drop (1 : Nat) (s_drop (1 : Nat) rs))))).tmod
                                  (8 : Int)).toNat -
                              (0 : Nat)))
                          (s_drop (1 : Nat)
                            (s_drop (1 : Nat) (s_drop (1 : Nat) (s_drop (1 : Nat) (s_drop (1 : Nat) rs))))))
                        (2 : Nat) -
                      (128 : Int)) *
                  (8 : Int)))],
          [AV.int IntKind.i64
              (IntKind.i64.wrap
                (IntKind.i64.wrap
                    (s_at
                        (s_drop
                          (s_actsN
                            (s_drop (1 : Nat)
                              (s_drop (1 : Nat) (s_drop (1 : Nat) (s_drop (1 : Nat) (s_drop (1 : Nat) rs)))))
                            (((s_hd (s_drop (1 : Nat) (s_drop (1 : Nat) (s_drop (1 : Nat) (s_drop (1 : Nat) rs))))).tmod
                                  (8 : Int)).toNat -
                              (0 : Nat)))
                          (s_drop (1 : Nat)
                            (s_drop (1 : Nat) (s_drop (1 : Nat) (s_drop (1 : Nat) (s_drop (1 : Nat) rs))))))
                        (3 : Nat) -
                      (128 : Int)) *
                  (8 : Int)))]]],
  [AObj.box
      [AV.row nl2 [K.int IntKind.u8]
          (s_drop (4 : Nat)
            (s_drop
              (s_actsN (s_drop (1 : Nat) (s_drop (1 : Nat) (s_drop (1 : Nat) (s_drop (1 : Nat) (s_drop (1 : Nat) rs)))))
                (((s_hd (s_drop (1 : Nat) (s_drop (1 : Nat) (s_drop (1 : Nat) (s_drop (1 : Nat) rs))))).tmod
                      (8 : Int)).toNat -
                  (0 : Nat)))
              (s_drop (1 : Nat) (s_drop (1 : Nat) (s_drop (1 : Nat) (s_drop (1 : Nat) (s_drop (1 : Nat) rs)))))))]])))))))))))))
  (chk ((0 : Int) ≤ (s_hd (s_drop (1 : Nat) (s_drop (1 : Nat) (s_drop (1 : Nat) (s_drop (1 : Nat) rs))))).tmod (8 : Int) ∧
  (s_hd (s_drop (1 : Nat) (s_drop (1 : Nat) (s_drop (1 : Nat) (s_drop (1 : Nat) rs))))).tmod (8 : Int) ≤
      (s_hd (s_drop (1 : Nat) (s_drop (1 : Nat) (s_drop (1 : Nat) (s_drop (1 : Nat) rs))))).tmod (8 : Int) ∧
    (↑(32 : Nat) : Int) *
        (s_hd (s_drop (1 : Nat) (s_drop (1 : Nat) (s_drop (1 : Nat) (s_drop (1 : Nat) rs))))).tmod (8 : Int) ≤
      (140737488355328 : Int)) (chk ((s_hd (s_drop (1 : Nat) (s_drop (1 : Nat) (s_drop (1 : Nat) (s_drop (1 : Nat) rs))))).tmod (8 : Int) ≤
  (9223372036854775807 : Int)) (((Hyp ((↑((s_hd (s_drop (1 : Nat) (s_drop (1 : Nat) (s_drop (1 : Nat) (s_drop (1 : Nat) rs))))).tmod (8 : Int)).toNat : Int) =
    (↑((s_hd (s_drop (1 : Nat) (s_drop (1 : Nat) (s_drop (1 : Nat) (s_drop (1 : Nat) rs))))).tmod (8 : Int)).toNat :
      Int) ∧
  (0 : Int) ≤ (0 : Int) ∧
    (0 : Int) ≤
        (↑((s_hd (s_drop (1 : Nat) (s_drop (1 : Nat) (s_drop (1 : Nat) (s_drop (1 : Nat) rs))))).tmod (8 : Int)).toNat :
          Int) ∧
      ((s_hd (s_drop (1 : Nat) (s_drop (1 : Nat) (s_drop (1 : Nat) (s_drop (1 : Nat) rs))))).tmod (8 : Int)).toNat ≤
          (100 : Nat) ∧
        (List.replicate
                ((s_hd (s_drop (1 : Nat) (s_drop (1 : Nat) (s_drop (1 : Nat) (s_drop (1 : Nat) rs))))).tmod
                    (8 : Int)).toNat
                [AV.int IntKind.i64 (0 : Int), AV.int IntKind.i64 (0 : Int), AV.str (ByteArray.mk #[])]).length =
            ((s_hd (s_drop (1 : Nat) (s_drop (1 : Nat) (s_drop (1 : Nat) (s_drop (1 : Nat) rs))))).tmod
                (8 : Int)).toNat ∧
          s_len3
              (List.replicate
                ((s_hd (s_drop (1 : Nat) (s_drop (1 : Nat) (s_drop (1 : Nat) (s_drop (1 : Nat) rs))))).tmod
                    (8 : Int)).toNat
                [AV.int IntKind.i64 (0 : Int), AV.int IntKind.i64 (0 : Int), AV.str (ByteArray.mk #[])]) ∧
            s_bytes (s_drop (1 : Nat) (s_drop (1 : Nat) (s_drop (1 : Nat) (s_drop (1 : Nat) (s_drop (1 : Nat) rs))))))) ∧
  ((∀ (rows'105 : List (List AV)),
  ((rows'105 =
  [] ++
    s_acts (s_drop (1 : Nat) (s_drop (1 : Nat) (s_drop (1 : Nat) (s_drop (1 : Nat) (s_drop (1 : Nat) rs)))))
      (((s_hd (s_drop (1 : Nat) (s_drop (1 : Nat) (s_drop (1 : Nat) (s_drop (1 : Nat) rs))))).tmod (8 : Int)).toNat -
        (0 : Nat))) →
  ((Hyp ((0 : Int) ≤ (4 : Int) ∧ (4 : Int) ≤ (100 : Int))) ∧
  (chk ((0 : Nat) +
    ((s_hd (s_drop (1 : Nat) (s_drop (1 : Nat) (s_drop (1 : Nat) (s_drop (1 : Nat) rs))))).tmod (8 : Int)).toNat ≤
  rows'105.length) (Q ((AV.agg
    [AV.int IntKind.i64 ((s_hd rs).tmod (3 : Int)), AV.int IntKind.i64 (0 : Int),
      AV.int IntKind.i64 ((s_hd (s_drop (1 : Nat) (s_drop (1 : Nat) rs))).tmod (60 : Int)),
      AV.int IntKind.i64
        (IntKind.i64.wrap
          ((s_hd (s_drop (1 : Nat) (s_drop (1 : Nat) rs))).tmod (60 : Int) +
            (s_hd (s_drop (1 : Nat) (s_drop (1 : Nat) (s_drop (1 : Nat) rs)))).tmod (60 : Int))),
      AV.row false [K.int IntKind.i64, K.int IntKind.i64, K.str]
        (List.take
          ((s_hd (s_drop (1 : Nat) (s_drop (1 : Nat) (s_drop (1 : Nat) (s_drop (1 : Nat) rs))))).tmod (8 : Int)).toNat
          (List.drop (0 : Nat) rows'105)),
      AV.row false [K.int IntKind.i64]
        [[AV.int IntKind.i64
              (IntKind.i64.wrap
                (IntKind.i64.wrap
                    (s_at
                        (s_drop
                          (s_actsN
                            (s_drop (1 : Nat)
                              (s_drop (1 : Nat) (s_drop (1 : Nat) (s_drop (1 : Nat) (s_drop (1 : Nat) rs)))))
                            (((s_hd (s_drop (1 : Nat) (s_drop (1 : Nat) (s_drop (1 : Nat) (s_drop (1 : Nat) rs))))).tmod
                                  (8 : Int)).toNat -
                              (0 : Nat)))
                          (s_drop (1 : Nat)
                            (s_drop (1 : Nat) (s_drop (1 : Nat) (s_drop (1 : Nat) (s_drop (1 : Nat) rs))))))
                        (0 : Nat) -
                      (128 : Int)) *
                  (8 : Int)))],
          [AV.int IntKind.i64
              (IntKind.i64.wrap
                (IntKind.i64.wrap
                    (s_at
                        (s_drop
                          (s_actsN
                            (s_drop (1 : Nat)
                              (s_drop (1 : Nat) (s_drop (1 : Nat) (s_drop (1 : Nat) (s_drop (1 : Nat) rs)))))
                            (((s_hd (s_drop (1 : Nat) (s_drop (1 : Nat) (s_drop (1 : Nat) (s_drop (1 : Nat) rs))))).tmod
                                  (8 : Int)).toNat -
                              (0 : Nat)))
                          (s_drop (1 : Nat)
                            (s_drop (1 : Nat) (s_drop (1 : Nat) (s_drop (1 : Nat) (s_drop (1 : Nat) rs))))))
                        (1 : Nat) -
                      (128 : Int)) *
                  (8 : Int)))],
          [AV.int IntKind.i64
              (IntKind.i64.wrap
                (IntKind.i64.wrap
                    (s_at
                        (s_drop
                          (s_actsN
                            (s_drop (1 : Nat)
                              (s_drop (1 : Nat) (s_drop (1 : Nat) (s_drop (1 : Nat) (s_drop (1 : Nat) rs)))))
                            (((s_hd (s_drop (1 : Nat) (s_drop (1 : Nat) (s_drop (1 : Nat) (s_drop (1 : Nat) rs))))).tmod
                                  (8 : Int)).toNat -
                              (0 : Nat)))
                          (s_drop (1 : Nat)
                            (s_drop (1 : Nat) (s_drop (1 : Nat) (s_drop (1 : Nat) (s_drop (1 : Nat) rs))))))
                        (2 : Nat) -
                      (128 : Int)) *
                  (8 : Int)))],
          [AV.int IntKind.i64
              (IntKind.i64.wrap
                (IntKind.i64.wrap
                    (s_at
                        (s_drop
                          (s_actsN
                            (s_drop (1 : Nat)
                              (s_drop (1 : Nat) (s_drop (1 : Nat) (s_drop (1 : Nat) (s_drop (1 : Nat) rs)))))
                            (((s_hd (s_drop (1 : Nat) (s_drop (1 : Nat) (s_drop (1 : Nat) (s_drop (1 : Nat) rs))))).tmod
                                  (8 : Int)).toNat -
                              (0 : Nat)))
                          (s_drop (1 : Nat)
                            (s_drop (1 : Nat) (s_drop (1 : Nat) (s_drop (1 : Nat) (s_drop (1 : Nat) rs))))))
                        (3 : Nat) -
                      (128 : Int)) *
                  (8 : Int)))]]],
  [AObj.box
      [AV.row nl2 [K.int IntKind.u8]
          (s_drop (4 : Nat)
            (s_drop
              (s_actsN (s_drop (1 : Nat) (s_drop (1 : Nat) (s_drop (1 : Nat) (s_drop (1 : Nat) (s_drop (1 : Nat) rs)))))
                (((s_hd (s_drop (1 : Nat) (s_drop (1 : Nat) (s_drop (1 : Nat) (s_drop (1 : Nat) rs))))).tmod
                      (8 : Int)).toNat -
                  (0 : Nat)))
              (s_drop (1 : Nat) (s_drop (1 : Nat) (s_drop (1 : Nat) (s_drop (1 : Nat) (s_drop (1 : Nat) rs)))))))]])))))))))))))) := by kernel_rfl
theorem nf25a (k a f t m i z1 z2 z3 z4 : Int) (n : Nat) (nl : Bool) (rows rs : List (List AV)) (Q : Ex → List AV → List AObj → Prop) : lpBody Try.prog H0 S4 6 6 25 1012 [.ptr 0 0, .ptr 1 0, .ptr 2 0, .int .i64 m, .int .i64 i] [.box [.row nl [.int .u8] rs], .box [.int .i64 z1, .int .i64 z2, .int .i64 z3, .int .i64 z4, .nils, .nils], .box [.int .i64 k, .int .i64 a, .int .i64 f, .int .i64 t, .sl 3 0 n, .nils], .arr 2 47 [.int .i64, .int .i64, .str] rows] Q = (
br (decide (i < m))
 (chk ((0 : Int) ≤ i ∧ i < (↑n : Int)) (chk ((0 : Nat) + i.toNat < rows.length) (chk ((0 : Int) ≤ i ∧ i < (↑n : Int)) (chk ((0 : Nat) + i.toNat <
  (rows.set ((0 : Nat) + i.toNat)
      (AV.int IntKind.i64 ((s_hd rs).tmod (7 : Int)) ::
        List.drop ((0 : Nat) + (1 : Nat)) (rows.getD ((0 : Nat) + i.toNat) []))).length) (((Hyp (s_bytes (s_drop (1 : Nat) (s_drop (1 : Nat) rs)))) ∧
 (chk ((0 : Int) ≤ i ∧ i < (↑n : Int)) (chk ((0 : Nat) + i.toNat <
  ((rows.set ((0 : Nat) + i.toNat)
          (AV.int IntKind.i64 ((s_hd rs).tmod (7 : Int)) ::
            List.drop ((0 : Nat) + (1 : Nat)) (rows.getD ((0 : Nat) + i.toNat) []))).set
      ((0 : Nat) + i.toNat)
      (setAll
        ((rows.set ((0 : Nat) + i.toNat)
              (AV.int IntKind.i64 ((s_hd rs).tmod (7 : Int)) ::
                List.drop ((0 : Nat) + (1 : Nat)) (rows.getD ((0 : Nat) + i.toNat) []))).getD
          ((0 : Nat) + i.toNat) [])
        (1 : Nat) [AV.int IntKind.i64 (s_hd (s_drop (1 : Nat) rs))])).length) (Q (Ex.nrm) ([AV.ptr (0 : Nat) (0 : Nat), AV.ptr (1 : Nat) (0 : Nat), AV.ptr (2 : Nat) (0 : Nat), AV.int IntKind.i64 m,
  AV.int IntKind.i64 (IntKind.i64.wrap (i + (1 : Int)))]) ([AObj.box
    [AV.row nl [K.int IntKind.u8]
        (s_drop ((1 : Nat) + ((s_hd (s_drop (1 : Nat) (s_drop (1 : Nat) rs))).tmod (4 : Int)).toNat)
          (s_drop (1 : Nat) (s_drop (1 : Nat) rs)))],
  AObj.box
    [AV.int IntKind.i64 z1, AV.int IntKind.i64 z2, AV.int IntKind.i64 z3, AV.int IntKind.i64 z4, AV.nils, AV.nils],
  AObj.box
    [AV.int IntKind.i64 k, AV.int IntKind.i64 a, AV.int IntKind.i64 f, AV.int IntKind.i64 t,
      AV.sl (3 : Nat) (0 : Nat) n, AV.nils],
  AObj.arr (2 : Nat) (47 : Nat) [K.int IntKind.i64, K.int IntKind.i64, K.str]
    (((rows.set ((0 : Nat) + i.toNat)
              (AV.int IntKind.i64 ((s_hd rs).tmod (7 : Int)) ::
                List.drop ((0 : Nat) + (1 : Nat)) (rows.getD ((0 : Nat) + i.toNat) []))).set
          ((0 : Nat) + i.toNat)
          (setAll
            ((rows.set ((0 : Nat) + i.toNat)
                  (AV.int IntKind.i64 ((s_hd rs).tmod (7 : Int)) ::
                    List.drop ((0 : Nat) + (1 : Nat)) (rows.getD ((0 : Nat) + i.toNat) []))).getD
              ((0 : Nat) + i.toNat) [])
            (1 : Nat) [AV.int IntKind.i64 (s_hd (s_drop (1 : Nat) rs))])).set
      ((0 : Nat) + i.toNat)
      (setAll
        (((rows.set ((0 : Nat) + i.toNat)
                  (AV.int IntKind.i64 ((s_hd rs).tmod (7 : Int)) ::
                    List.drop ((0 : Nat) + (1 : Nat)) (rows.getD ((0 : Nat) + i.toNat) []))).set
              ((0 : Nat) + i.toNat)
              (setAll
                ((rows.set ((0 : Nat) + i.toNat)
                      (AV.int IntKind.i64 ((s_hd rs).tmod (7 : Int)) ::
                        List.drop ((0 : Nat) + (1 : Nat)) (rows.getD ((0 : Nat) + i.toNat) []))).getD
                  ((0 : Nat) + i.toNat) [])
                (1 : Nat) [AV.int IntKind.i64 (s_hd (s_drop (1 : Nat) rs))])).getD
          ((0 : Nat) + i.toNat) [])
        (2 : Nat)
        [AV.str
            (s_text (s_drop (1 : Nat) (s_drop (1 : Nat) rs))
              ((s_hd (s_drop (1 : Nat) (s_drop (1 : Nat) rs))).tmod (4 : Int)).toNat (1 : Nat) (ByteArray.mk #[]))]))]))))))))))
 (Q (Ex.exit (1 : Nat)) ([AV.ptr (0 : Nat) (0 : Nat), AV.ptr (1 : Nat) (0 : Nat), AV.ptr (2 : Nat) (0 : Nat)]) ([AObj.box [AV.row nl [K.int IntKind.u8] rs],
  AObj.box
    [AV.int IntKind.i64 z1, AV.int IntKind.i64 z2, AV.int IntKind.i64 z3, AV.int IntKind.i64 z4, AV.nils, AV.nils],
  AObj.box
    [AV.int IntKind.i64 k, AV.int IntKind.i64 a, AV.int IntKind.i64 f, AV.int IntKind.i64 t,
      AV.sl (3 : Nat) (0 : Nat) n, AV.nils],
  AObj.arr (2 : Nat) (47 : Nat) [K.int IntKind.i64, K.int IntKind.i64, K.str] rows]))) := by kernel_rfl
end Go.Proofs.YthihinlamlamhaaE
