/- What path mode says of functions, printed by a program of this session; the kernel holds each. -/
import Derived.Test.YtikmaidjpffakaaFAd
import Derived.KernelRfl
namespace Go.Proofs.YtikmaidjpffakaaE
open Go
set_option maxRecDepth 100000
set_option linter.unusedVariables false
theorem nf37 (n k : Int) (Q : AV × List AObj → Prop) : inlW Try.prog H0 SAL 6 (InO Try.prog H0 SAL 6 6) 37 [.int .i64 n, .int .i64 k] [] Q = (
br (decide (k < (1 : Int)))
 (Q ((AV.str (ByteArray.mk #[]), [])))
 (br (decide (k > (62 : Int)))
  (Q ((AV.str (ByteArray.mk #[]), [])))
  (((Hyp ((-1 : Int) ≤ IntKind.i64.wrap (k - (1 : Int)) ∧
  IntKind.i64.wrap (k - (1 : Int)) ≤ (62 : Int) ∧ (0 : Int) + IntKind.i64.wrap (k - (1 : Int)) ≤ (1000 : Int))) ∧
  (Q ((AV.str (bitsG n (IntKind.i64.wrap (k - (1 : Int)) + (1 : Int)).toNat (ByteArray.mk #[])), []))))))) := by kernel_rfl
theorem nf37a (n k : Int) (s : ByteArray) (Q : Ex → List AV → List AObj → Prop) : lpBody Try.prog H0 S9 6 6 37 5 [.int .i64 n, .str s, .int .i64 k] [] Q = (
br (decide (k ≥ (0 : Int)))
 (chk (¬IntKind.u64.wrap k < (0 : Int)) ((∀ (z102 : Int),
 ((z102 = n.fdiv ((2 : Int) ^ min (IntKind.u64.wrap k).toNat (64 : Nat))) →
 (∀ (z104 : Int),
 ((z104 = IntKind.i64.wrap (↑(BitVec.ofInt IntKind.i64.bits z102 &&& BitVec.ofInt IntKind.i64.bits (1 : Int)).toNat : Int)) →
 br (z104 == (1 : Int))
  (chk (s.size.ble (nat_lit 9223372036854775806) = true) (Q (Ex.nrm) ([AV.int IntKind.i64 n, AV.str (s ++ (ByteArray.mk #[(49 : UInt8)])), AV.int IntKind.i64 (IntKind.i64.wrap (k - (1 : Int)))]) ([])))
  (chk (s.size.ble (nat_lit 9223372036854775806) = true) (Q (Ex.nrm) ([AV.int IntKind.i64 n, AV.str (s ++ (ByteArray.mk #[(48 : UInt8)])), AV.int IntKind.i64 (IntKind.i64.wrap (k - (1 : Int)))]) ([])))))))))
 (Q (Ex.exit (0 : Nat)) ([AV.str s]) ([]))) := by kernel_rfl
theorem nf7a (x ro sl to_ i n pi e g fi k a f t : Int) (nl : Bool) (rs : List (List AV)) (Q : Ex → List AV → List AObj → Prop) : lpBody Try.prog H0 SA 6 6 7 7 [.int .i64 x, .int .i64 ro, .int .i64 sl, .int .i64 to_, .ptr 0 0, .ptr 1 0, .int .i64 i] [.box [.int .i64 n, .int .i64 pi, .int .i64 e, .int .i64 g, .int .i64 fi, .row nl [.int .i64] rs], .box [.int .i64 k, .int .i64 a, .int .i64 f, .int .i64 t, .nils, .nils]] Q = (
br (decide (i < x))
 (Q (Ex.nrm) ([AV.int IntKind.i64 x, AV.int IntKind.i64 ro, AV.int IntKind.i64 sl, AV.int IntKind.i64 to_, AV.ptr (0 : Nat) (0 : Nat),
  AV.ptr (1 : Nat) (0 : Nat), AV.int IntKind.i64 (IntKind.i64.wrap (i + (1 : Int)))]) ([AObj.box
    [AV.int IntKind.i64 n, AV.int IntKind.i64 pi, AV.int IntKind.i64 e, AV.int IntKind.i64 g, AV.int IntKind.i64 fi,
      AV.row nl [K.int IntKind.i64] rs],
  AObj.box
    [AV.int IntKind.i64 k, AV.int IntKind.i64 a, AV.int IntKind.i64 f, AV.int IntKind.i64 t,
      AV.sl (2 : Nat) (0 : Nat) (1 : Nat), AV.nils],
  AObj.arr (2 : Nat) (37 : Nat) [K.int IntKind.i64, K.int IntKind.i64, K.str]
    [[AV.int IntKind.i64 (3 : Int), AV.int IntKind.i64 (0 : Int), AV.str (s_bits i (6 : Int))]]]))
 (Q (Ex.exit (0 : Nat)) ([AV.int IntKind.i64 x, AV.int IntKind.i64 ro, AV.int IntKind.i64 sl, AV.int IntKind.i64 to_, AV.ptr (0 : Nat) (0 : Nat),
  AV.ptr (1 : Nat) (0 : Nat)]) ([AObj.box
    [AV.int IntKind.i64 n, AV.int IntKind.i64 pi, AV.int IntKind.i64 e, AV.int IntKind.i64 g, AV.int IntKind.i64 fi,
      AV.row nl [K.int IntKind.i64] rs],
  AObj.box [AV.int IntKind.i64 k, AV.int IntKind.i64 a, AV.int IntKind.i64 f, AV.int IntKind.i64 t, AV.nils, AV.nils]]))) := by kernel_rfl
theorem nf7b (x ro sl to_ i n pi e g fi k a f t : Int) (nl : Bool) (rs rows : List (List AV)) (m : Nat) (Q : Ex → List AV → List AObj → Prop) : lpBody Try.prog H0 SA 6 6 7 7 [.int .i64 x, .int .i64 ro, .int .i64 sl, .int .i64 to_, .ptr 0 0, .ptr 1 0, .int .i64 i] [.box [.int .i64 n, .int .i64 pi, .int .i64 e, .int .i64 g, .int .i64 fi, .row nl [.int .i64] rs], .box [.int .i64 k, .int .i64 a, .int .i64 f, .int .i64 t, .sl 2 0 m, .nils], .arr 2 37 [.int .i64, .int .i64, .str] rows] Q = (
br (decide (i < x))
 (chk (m = rows.length) (chk ((rows.length + (1 : Nat)) * (32 : Nat) ≤ (140737488355328 : Nat)) (chk (rows.length + (1 : Nat) ≤ (9223372036854775807 : Nat)) (Q (Ex.nrm) ([AV.int IntKind.i64 x, AV.int IntKind.i64 ro, AV.int IntKind.i64 sl, AV.int IntKind.i64 to_, AV.ptr (0 : Nat) (0 : Nat),
  AV.ptr (1 : Nat) (0 : Nat), AV.int IntKind.i64 (IntKind.i64.wrap (i + (1 : Int)))]) ([AObj.box
    [AV.int IntKind.i64 n, AV.int IntKind.i64 pi, AV.int IntKind.i64 e, AV.int IntKind.i64 g, AV.int IntKind.i64 fi,
      AV.row nl [K.int IntKind.i64] rs],
  AObj.box
    [AV.int IntKind.i64 k, AV.int IntKind.i64 a, AV.int IntKind.i64 f, AV.int IntKind.i64 t,
      AV.sl (2 : Nat) (0 : Nat) (rows.length + (1 : Nat)), AV.nils],
  AObj.arr (2 : Nat) (37 : Nat) [K.int IntKind.i64, K.int IntKind.i64, K.str]
    (rows ++ [[AV.int IntKind.i64 (3 : Int), AV.int IntKind.i64 (0 : Int), AV.str (s_bits i (6 : Int))]])])))))
 (Q (Ex.exit (0 : Nat)) ([AV.int IntKind.i64 x, AV.int IntKind.i64 ro, AV.int IntKind.i64 sl, AV.int IntKind.i64 to_, AV.ptr (0 : Nat) (0 : Nat),
  AV.ptr (1 : Nat) (0 : Nat)]) ([AObj.box
    [AV.int IntKind.i64 n, AV.int IntKind.i64 pi, AV.int IntKind.i64 e, AV.int IntKind.i64 g, AV.int IntKind.i64 fi,
      AV.row nl [K.int IntKind.i64] rs],
  AObj.box
    [AV.int IntKind.i64 k, AV.int IntKind.i64 a, AV.int IntKind.i64 f, AV.int IntKind.i64 t,
      AV.sl (2 : Nat) (0 : Nat) m, AV.nils],
  AObj.arr (2 : Nat) (37 : Nat) [K.int IntKind.i64, K.int IntKind.i64, K.str] rows]))) := by kernel_rfl
theorem nf7 (n pi e g fi : Int) (nl : Bool) (rs : List (List AV)) (x ro sl to_ : Int) (Q : AV × List AObj → Prop) : inlW Try.prog H0 SAP 6 (InO Try.prog H0 SAP 6 6) 7 [cf n pi e g fi nl rs, .int .i64 x, .int .i64 ro, .int .i64 sl, .int .i64 to_] [] Q = (
(∀ (n'100 : Int),
(∀ (pi'101 : Int),
(∀ (e'102 : Int),
(∀ (g'103 : Int),
(∀ (fi'104 : Int),
(∀ (nl'105 : Bool),
(∀ (ps106 : List Int),
((s_made n'100 pi'101 e'102 g'103 fi'104 ps106) →
((Hyp ((0 : Int) = (0 : Int) ∧
  (1 : Int) ≤ IntKind.i64.wrap ((1 : Int) + s_rem x (40 : Int)) ∧
    IntKind.i64.wrap ((1 : Int) + s_rem x (40 : Int)) ≤ (40 : Int))) ∧
(chk ((0 : Int) < n'100 ∧ n'100 < (9223372036854775808 : Int)) (chk ((0 : Int) ≤ s_rem to_ (4 : Int) ∧ s_rem to_ (4 : Int) < (4 : Int)) (chk ((0 : Nat) + (s_rem to_ (4 : Int)).toNat < (4 : Nat)) (chk ((0 : Int) < n'100 ∧ n'100 < (9223372036854775808 : Int)) (chk (IntKind.i64.wrap ((1 : Int) + s_rem x (40 : Int)) ≠ (0 : Int)) (chk ((0 : Nat) + (IntKind.i64.wrap ((1 : Int) + s_rem x (40 : Int))).toNat ≤
  (s_picks (IntKind.i64.wrap ((1 : Int) + s_rem x (40 : Int))).toNat).length) (((Hyp (s_confOk n'100 pi'101 e'102 g'103 fi'104
      (List.map (fun r => (r.getD (0 : Nat) AV.gone).toI) (List.map (fun n => [AV.int IntKind.i64 n]) ps106)) =
    true ∧
  (0 : Int) ≤ s_rem ro (900 : Int) ∧
    s_rem ro (900 : Int) ≤ (1000000 : Int) ∧
      (0 : Int) ≤ s_rem sl n'100 ∧
        s_rem sl n'100 ≤ (1000000 : Int) ∧
          (0 : Int) ≤
              s_rem
                (IntKind.i64.wrap
                  ((0 : Int) +
                    (([[AV.int IntKind.i64 (1 : Int)], [AV.int IntKind.i64 (2 : Int)], [AV.int IntKind.i64 (-1 : Int)],
                                [AV.int IntKind.i64 (-2 : Int)]].getD
                            ((0 : Nat) + (s_rem to_ (4 : Int)).toNat) []).getD
                        (0 : Nat) AV.gone).toI))
                n'100 ∧
            s_rem
                  (IntKind.i64.wrap
                    ((0 : Int) +
                      (([[AV.int IntKind.i64 (1 : Int)], [AV.int IntKind.i64 (2 : Int)],
                                  [AV.int IntKind.i64 (-1 : Int)], [AV.int IntKind.i64 (-2 : Int)]].getD
                              ((0 : Nat) + (s_rem to_ (4 : Int)).toNat) []).getD
                          (0 : Nat) AV.gone).toI))
                  n'100 ≤
                (1000000 : Int) ∧
              (2 : Int) ≤ (2305843009213693952 : Int) ∧
                s_actsOk
                  (List.take (IntKind.i64.wrap ((1 : Int) + s_rem x (40 : Int))).toNat
                    (List.drop (0 : Nat) (s_picks (IntKind.i64.wrap ((1 : Int) + s_rem x (40 : Int))).toNat))))) ∧
(Q ((AV.bool
    ((s_emit
          (s_hit n'100 (1 : Int) (0 : Int) (0 : Int)
            (s_rem
              (IntKind.i64.wrap
                ((0 : Int) +
                  (([[AV.int IntKind.i64 (1 : Int)], [AV.int IntKind.i64 (2 : Int)], [AV.int IntKind.i64 (-1 : Int)],
                              [AV.int IntKind.i64 (-2 : Int)]].getD
                          ((0 : Nat) + (s_rem to_ (4 : Int)).toNat) []).getD
                      (0 : Nat) AV.gone).toI))
              n'100))
          (0 : Int) (1000 : Int)
          (List.take (IntKind.i64.wrap ((1 : Int) + s_rem x (40 : Int))).toNat
            (List.drop (0 : Nat) (s_picks (IntKind.i64.wrap ((1 : Int) + s_rem x (40 : Int))).toNat)))
          (s_rem ro (900 : Int)) (s_rem sl n'100)
          (s_rem
            (IntKind.i64.wrap
              ((0 : Int) +
                (([[AV.int IntKind.i64 (1 : Int)], [AV.int IntKind.i64 (2 : Int)], [AV.int IntKind.i64 (-1 : Int)],
                            [AV.int IntKind.i64 (-2 : Int)]].getD
                        ((0 : Nat) + (s_rem to_ (4 : Int)).toNat) []).getD
                    (0 : Nat) AV.gone).toI))
            n'100)
          (ByteArray.mk #[(48 : UInt8), (49 : UInt8)])).toList ==
      (s_bits
          ((IntKind.i64.wrap
                (IntKind.i64.wrap
                    (IntKind.i64.wrap ((17 : Int) * s_rem ro (900 : Int)) +
                      IntKind.i64.wrap ((5 : Int) * s_rem sl n'100)) +
                  s_rem
                    (IntKind.i64.wrap
                      ((0 : Int) +
                        (([[AV.int IntKind.i64 (1 : Int)], [AV.int IntKind.i64 (2 : Int)],
                                    [AV.int IntKind.i64 (-1 : Int)], [AV.int IntKind.i64 (-2 : Int)]].getD
                                ((0 : Nat) + (s_rem to_ (4 : Int)).toNat) []).getD
                            (0 : Nat) AV.gone).toI))
                    n'100)).tmod
            (IntKind.i64.wrap ((1 : Int) + s_rem x (40 : Int))))
          (6 : Int)).toList),
  []))))))))))))))))))))) := by kernel_rfl
end Go.Proofs.YtikmaidjpffakaaE
