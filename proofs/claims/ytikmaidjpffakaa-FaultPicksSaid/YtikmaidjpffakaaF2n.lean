/- What path mode says of functions, printed by a program of this session; the kernel holds each. -/
import Derived.Test.YtikmaidjpffakaaF2d
import Derived.KernelRfl
namespace Go.Proofs.YtikmaidjpffakaaE
open Go
set_option maxRecDepth 100000
set_option linter.unusedVariables false
theorem nf69 (s : ByteArray) (Q : AV × List AObj → Prop) : inlW Try.prog H0 S3L 6 (InO Try.prog H0 S3L 6 6) 69 [.str s] [] Q = (
((Hyp (s = s ∧
  (0 : Nat) ≤ s.size ∧
    (↑s.size : Int) ≤ (4611686018427387904 : Int) ∧
      cleanN s.data.toList = (0 : Nat) + cleanN (List.drop (0 : Nat) s.data.toList))) ∧
(((((cleanN s.data.toList = s.size) →
Q ((AV.str s, [])))) ∧
(Q ((AV.str (s_clean s), []))))))) := by kernel_rfl
theorem nf69a (s : ByteArray) (p : Nat) (Q : Ex → List AV → List AObj → Prop) : lpBody Try.prog H0 S0 6 6 69 2 [.str s, .ptr 0 0] [.iter s p] Q = (
br (decide (p < s.size))
 (br ((↑(Utf8.decode s p).1 : Int) == (35 : Int))
  (chk ((0 : Int) ≤ IntKind.i64.wrap ((↑p : Int) + (1 : Int)) ∧ IntKind.i64.wrap ((↑p : Int) + (1 : Int)) ≤ (↑s.size : Int)) (Q (Ex.ret) ([AV.str (s.extract (0 : Nat) (IntKind.i64.wrap ((↑p : Int) + (1 : Int))).toNat)]) ([])))
  (br ((↑(Utf8.decode s p).1 : Int) == (48 : Int))
   (Q (Ex.nrm) ([AV.str s, AV.ptr (0 : Nat) (0 : Nat)]) ([AObj.iter s (p + (Utf8.decode s p).2)]))
   (br (!(↑(Utf8.decode s p).1 : Int) == (49 : Int))
    (chk ((0 : Int) ≤ (↑p : Int) ∧ (↑p : Int) ≤ (↑s.size : Int)) (Q (Ex.ret) ([AV.str (s.extract (0 : Nat) (↑p : Int).toNat)]) ([])))
    (Q (Ex.nrm) ([AV.str s, AV.ptr (0 : Nat) (0 : Nat)]) ([AObj.iter s (p + (Utf8.decode s p).2)])))))
 (Q (Ex.exit (0 : Nat)) ([AV.str s]) ([]))) := by kernel_rfl
theorem nf31' (s : ByteArray) (Q : AV × List AObj → Prop) : inlW Try.prog H0 S3L 6 (InO Try.prog H0 S3L 6 6) 31 [.str s] [] Q = (
((Hyp ((0 : Int) ≤ (0 : Int) ∧
  (0 : Int) ≤ (↑s.size : Int) ∧
    (↑s.size : Int) ≤ (4611686018427387904 : Int) ∧
      cleanN s.data.toList = Int.toNat (0 : Int) + cleanN (List.drop (Int.toNat (0 : Int)) s.data.toList))) ∧
(((((cleanN s.data.toList = s.size) →
Q ((AV.str s, [])))) ∧
(Q ((AV.str (s_clean s), []))))))) := by kernel_rfl
theorem nf128 (n i d : Int) (Q : AV × List AObj → Prop) : inlW Try.prog H0 S1 6 (InO Try.prog H0 S1 6 6) 128 [.int .i64 n, .int .i64 i, .int .i64 d] [] Q = (
br (decide (n ≤ (0 : Int)))
 (Q ((AV.int IntKind.i64 (0 : Int), [])))
 (chk (n ≠ (0 : Int)) (chk (n ≠ (0 : Int)) (Q ((AV.int IntKind.i64 ((IntKind.i64.wrap ((IntKind.i64.wrap (i + d)).tmod n + n)).tmod n), [])))))) := by kernel_rfl
theorem nf36 (n a b : Int) (Q : AV × List AObj → Prop) : inlW Try.prog H0 S3L 6 (InO Try.prog H0 S3L 6 6) 36 [.int .i64 n, .int .i64 a, .int .i64 b] [] Q = (
((Hyp ((0 : Int) < n ∧ n ≤ (1000 : Int) ∧ (0 : Int) ≤ (0 : Int) ∧ (0 : Int) ≤ (2 : Int) * n)) ∧
(((((refL n a b ((2 : Int) * n - (0 : Int)).toNat (0 : Int) = none) →
Q ((AV.tup [AV.int IntKind.i64 (0 : Int), AV.bool false], [])))) ∧
((∀ (m102 : Int),
((refL n a b ((2 : Int) * n - (0 : Int)).toNat (0 : Int) = some m102) →
Q ((AV.tup [AV.int IntKind.i64 m102, AV.bool true], []))))))))) := by kernel_rfl
theorem nf36a (n a b k : Int) (Q : Ex → List AV → List AObj → Prop) : lpBody Try.prog H0 S1 6 6 36 2 [.int .i64 n, .int .i64 a, .int .i64 b, .int .i64 k] [] Q = (
br (decide (k < IntKind.i64.wrap ((2 : Int) * n)))
 (br (decide (k < n))
  (chk (n ≠ (0 : Int)) (br (k == a)
   (br ((IntKind.i64.wrap (k + (1 : Int))).tmod n == b)
    (Q (Ex.ret) ([AV.int IntKind.i64 k, AV.bool true]) ([]))
    (br (k == b)
     (br ((IntKind.i64.wrap (k + (1 : Int))).tmod n == a)
      (Q (Ex.ret) ([AV.int IntKind.i64 k, AV.bool true]) ([]))
      (Q (Ex.nrm) ([AV.int IntKind.i64 n, AV.int IntKind.i64 a, AV.int IntKind.i64 b,
  AV.int IntKind.i64 (IntKind.i64.wrap (k + (1 : Int)))]) ([])))
     (Q (Ex.nrm) ([AV.int IntKind.i64 n, AV.int IntKind.i64 a, AV.int IntKind.i64 b,
  AV.int IntKind.i64 (IntKind.i64.wrap (k + (1 : Int)))]) ([]))))
   (br (k == b)
    (br ((IntKind.i64.wrap (k + (1 : Int))).tmod n == a)
     (Q (Ex.ret) ([AV.int IntKind.i64 k, AV.bool true]) ([]))
     (Q (Ex.nrm) ([AV.int IntKind.i64 n, AV.int IntKind.i64 a, AV.int IntKind.i64 b,
  AV.int IntKind.i64 (IntKind.i64.wrap (k + (1 : Int)))]) ([])))
    (Q (Ex.nrm) ([AV.int IntKind.i64 n, AV.int IntKind.i64 a, AV.int IntKind.i64 b,
  AV.int IntKind.i64 (IntKind.i64.wrap (k + (1 : Int)))]) ([])))))
  (chk (n ≠ (0 : Int)) (br (IntKind.i64.wrap (k - n) == a)
   (br ((IntKind.i64.wrap (IntKind.i64.wrap (k - n) + (2 : Int))).tmod n == b)
    (Q (Ex.ret) ([AV.int IntKind.i64 k, AV.bool true]) ([]))
    (br (IntKind.i64.wrap (k - n) == b)
     (br ((IntKind.i64.wrap (IntKind.i64.wrap (k - n) + (2 : Int))).tmod n == a)
      (Q (Ex.ret) ([AV.int IntKind.i64 k, AV.bool true]) ([]))
      (Q (Ex.nrm) ([AV.int IntKind.i64 n, AV.int IntKind.i64 a, AV.int IntKind.i64 b,
  AV.int IntKind.i64 (IntKind.i64.wrap (k + (1 : Int)))]) ([])))
     (Q (Ex.nrm) ([AV.int IntKind.i64 n, AV.int IntKind.i64 a, AV.int IntKind.i64 b,
  AV.int IntKind.i64 (IntKind.i64.wrap (k + (1 : Int)))]) ([]))))
   (br (IntKind.i64.wrap (k - n) == b)
    (br ((IntKind.i64.wrap (IntKind.i64.wrap (k - n) + (2 : Int))).tmod n == a)
     (Q (Ex.ret) ([AV.int IntKind.i64 k, AV.bool true]) ([]))
     (Q (Ex.nrm) ([AV.int IntKind.i64 n, AV.int IntKind.i64 a, AV.int IntKind.i64 b,
  AV.int IntKind.i64 (IntKind.i64.wrap (k + (1 : Int)))]) ([])))
    (Q (Ex.nrm) ([AV.int IntKind.i64 n, AV.int IntKind.i64 a, AV.int IntKind.i64 b,
  AV.int IntKind.i64 (IntKind.i64.wrap (k + (1 : Int)))]) ([]))))))
 (Q (Ex.exit (0 : Nat)) ([]) ([]))) := by kernel_rfl
theorem nf127 (n a b : Int) (Q : AV × List AObj → Prop) : inlW Try.prog H0 S3 6 (InO Try.prog H0 S3 6 6) 127 [.int .i64 n, .int .i64 a, .int .i64 b] [] Q = (
br (decide (a < (0 : Int)))
 (Q ((AV.tup [AV.int IntKind.i64 (0 : Int), AV.bool false], [])))
 (br (decide (b < (0 : Int)))
  (Q ((AV.tup [AV.int IntKind.i64 (0 : Int), AV.bool false], [])))
  (br (decide (a ≥ n))
   (Q ((AV.tup [AV.int IntKind.i64 (0 : Int), AV.bool false], [])))
   (br (decide (b ≥ n))
    (Q ((AV.tup [AV.int IntKind.i64 (0 : Int), AV.bool false], [])))
    (((Hyp ((0 : Int) < n ∧
  n ≤ (1000000 : Int) ∧
    (-1000000 : Int) ≤ a ∧ a ≤ (1000000 : Int) ∧ (-1000000 : Int) ≤ (1 : Int) ∧ (1 : Int) ≤ (1000000 : Int))) ∧
    (br (s_rem (a + (1 : Int)) n == b)
     (Q ((AV.tup [AV.int IntKind.i64 (IntKind.i64.wrap (a + IntKind.i64.wrap (n * (0 : Int)))), AV.bool true], [])))
     (((Hyp ((0 : Int) < n ∧
  n ≤ (1000000 : Int) ∧
    (-1000000 : Int) ≤ b ∧ b ≤ (1000000 : Int) ∧ (-1000000 : Int) ≤ (1 : Int) ∧ (1 : Int) ≤ (1000000 : Int))) ∧
     (br (s_rem (b + (1 : Int)) n == a)
      (Q ((AV.tup [AV.int IntKind.i64 (IntKind.i64.wrap (b + IntKind.i64.wrap (n * (0 : Int)))), AV.bool true], [])))
      (((Hyp ((0 : Int) < n ∧
  n ≤ (1000000 : Int) ∧
    (-1000000 : Int) ≤ a ∧ a ≤ (1000000 : Int) ∧ (-1000000 : Int) ≤ (2 : Int) ∧ (2 : Int) ≤ (1000000 : Int))) ∧
      (br (s_rem (a + (2 : Int)) n == b)
       (Q ((AV.tup [AV.int IntKind.i64 (IntKind.i64.wrap (a + IntKind.i64.wrap (n * (1 : Int)))), AV.bool true], [])))
       (((Hyp ((0 : Int) < n ∧
  n ≤ (1000000 : Int) ∧
    (-1000000 : Int) ≤ b ∧ b ≤ (1000000 : Int) ∧ (-1000000 : Int) ≤ (2 : Int) ∧ (2 : Int) ≤ (1000000 : Int))) ∧
       (br (s_rem (b + (2 : Int)) n == a)
        (Q ((AV.tup [AV.int IntKind.i64 (IntKind.i64.wrap (b + IntKind.i64.wrap (n * (1 : Int)))), AV.bool true], [])))
        (Q ((AV.tup [AV.int IntKind.i64 (0 : Int), AV.bool false], []))))))))))))))))))) := by kernel_rfl
theorem nf11 (Q : AV × List AObj → Prop) : inlW Try.prog H0 S0 8 (InO Try.prog H0 S0 8 8) 11 [] [] Q = (
Q ((AV.bool true, []))) := by kernel_rfl
theorem nf25n (n pi e g fi kind at_ fr to_ fm dst : Int) (nl : Bool) (rs : List (List AV)) (nl2 : Bool) (acts : List (List AV)) (Q : AV × List AObj → Prop) : inlW Try.prog H0 S4 6 (InO Try.prog H0 S4 6 6) 25 [cf n pi e g fi nl rs, .agg [.int .i64 kind, .int .i64 at_, .int .i64 fr, .int .i64 to_, .row nl2 [.int .i64, .int .i64, .str] acts, AV.nils], .int .i64 fm, .int .i64 dst] [] Q = (
br (kind == (1 : Int))
 (Q ((AV.bool (fm == at_), [])))
 (br (kind == (2 : Int))
  (((Hyp ((0 : Int) < n ∧ n ≤ (1000 : Int))) ∧
  (br (s_linkB n fm dst)
   (Q ((AV.bool (s_linkN n fm dst == at_), [])))
   (Q ((AV.bool false, []))))))
  (Q ((AV.bool false, []))))) := by kernel_rfl
theorem nf25r (n pi e g fi kind at_ fr to_ fm dst : Int) (nl : Bool) (rs : List (List AV)) (nl2 : Bool) (acts : List (List AV)) (nl3 : Bool) (sh3 : List K) (ds : List (List AV)) (Q : AV × List AObj → Prop) : inlW Try.prog H0 S4 6 (InO Try.prog H0 S4 6 6) 25 [cf n pi e g fi nl rs, .agg [.int .i64 kind, .int .i64 at_, .int .i64 fr, .int .i64 to_, .row nl2 [.int .i64, .int .i64, .str] acts, AV.row nl3 sh3 ds], .int .i64 fm, .int .i64 dst] [] Q = (
br (kind == (1 : Int))
 (Q ((AV.bool (fm == at_), [])))
 (br (kind == (2 : Int))
  (((Hyp ((0 : Int) < n ∧ n ≤ (1000 : Int))) ∧
  (br (s_linkB n fm dst)
   (Q ((AV.bool (s_linkN n fm dst == at_), [])))
   (Q ((AV.bool false, []))))))
  (Q ((AV.bool false, []))))) := by kernel_rfl
theorem nf27n (n pi e g fi kind at_ fr to_ ro node : Int) (nl : Bool) (rs : List (List AV)) (nl2 : Bool) (acts : List (List AV)) (Q : AV × List AObj → Prop) : inlW Try.prog H0 S4 6 (InO Try.prog H0 S4 6 6) 27 [cf n pi e g fi nl rs, .agg [.int .i64 kind, .int .i64 at_, .int .i64 fr, .int .i64 to_, .row nl2 [.int .i64, .int .i64, .str] acts, AV.nils], .int .i64 ro, .int .i64 node] [] Q = (
br (kind == (1 : Int))
 (br (!node == at_)
  (Q ((AV.bool true, [])))
  (Q ((AV.bool (decide (ro ≥ to_)), []))))
 (br (kind == (2 : Int))
  (Q ((AV.bool true, [])))
  (Q ((AV.bool true, []))))) := by kernel_rfl
theorem nf27r (n pi e g fi kind at_ fr to_ ro node : Int) (nl : Bool) (rs : List (List AV)) (nl2 : Bool) (acts : List (List AV)) (nl3 : Bool) (sh3 : List K) (ds : List (List AV)) (Q : AV × List AObj → Prop) : inlW Try.prog H0 S4 6 (InO Try.prog H0 S4 6 6) 27 [cf n pi e g fi nl rs, .agg [.int .i64 kind, .int .i64 at_, .int .i64 fr, .int .i64 to_, .row nl2 [.int .i64, .int .i64, .str] acts, AV.row nl3 sh3 ds], .int .i64 ro, .int .i64 node] [] Q = (
br (kind == (1 : Int))
 (br (!node == at_)
  (Q ((AV.bool true, [])))
  (Q ((AV.bool (decide (ro ≥ to_)), []))))
 (br (kind == (2 : Int))
  (Q ((AV.bool true, [])))
  (Q ((AV.bool true, []))))) := by kernel_rfl
theorem nf50 (n m : Int) (Q : AV × List AObj → Prop) : inlW Try.prog H0 S4 6 (InO Try.prog H0 S4 6 6) 50 [.int .i64 n, .int .i64 m] [] Q = (
br (decide (m ≤ (0 : Int)))
 (Q ((AV.int IntKind.i64 (-1 : Int), [])))
 (chk (m ≠ (0 : Int)) (chk (m ≠ (0 : Int)) (Q ((AV.int IntKind.i64 ((IntKind.i64.wrap (n.tmod m + m)).tmod m), [])))))) := by kernel_rfl
theorem nf51 (n pi e g fi how m ro sl : Int) (nl : Bool) (rs : List (List AV)) (text base : ByteArray) (Q : AV × List AObj → Prop) : inlW Try.prog H0 S5n 6 (InO Try.prog H0 S5n 6 6) 51 [cf n pi e g fi nl rs, .agg [.int .i64 how, .int .i64 m, .str text], .int .i64 ro, .int .i64 sl, .str base] [] Q = (
br (s_rem how (7 : Int) == (1 : Int))
 (Q ((AV.str base, [])))
 (br (s_rem how (7 : Int) == (2 : Int))
  (chk (IntKind.i64.wrap ((↑base.size : Int) + (1 : Int)) ≤ (4611686018427387904 : Int)) (br (decide (IntKind.i64.wrap ((↑base.size : Int) + (1 : Int)) ≤ (0 : Int)))
   (False)
   (br (decide (IntKind.i64.wrap ((↑base.size : Int) + (1 : Int)) = (1 : Int)))
    (Q ((AV.str (base.extract (0 : Nat) (0 : Nat)), [])))
    (chk ((0 : Int) ≤ s_rem m (IntKind.i64.wrap ((↑base.size : Int) + (1 : Int))) ∧
  s_rem m (IntKind.i64.wrap ((↑base.size : Int) + (1 : Int))) ≤ (↑base.size : Int)) (Q ((AV.str (base.extract (0 : Nat) (s_rem m (IntKind.i64.wrap ((↑base.size : Int) + (1 : Int)))).toNat), [])))))))
  (br (s_rem how (7 : Int) == (3 : Int))
   (((Hyp ((↑text.size : Int) ≤ (4611686018427387904 : Int))) ∧
   (Q ((AV.str (s_clean text), [])))))
   (br (s_rem how (7 : Int) == (4 : Int))
    (chk ((↑base.size : Int) ≤ (4611686018427387904 : Int)) (br (decide ((↑base.size : Int) ≤ (0 : Int)))
     (False)
     (br (decide ((↑base.size : Int) = (1 : Int)))
      (False)
      (False))))
    (br (s_rem how (7 : Int) == (5 : Int))
     (False)
     (br (s_rem how (7 : Int) == (6 : Int))
      (False)
      (Q ((AV.str (ByteArray.mk #[]), []))))))))) := by kernel_rfl
theorem nf23n (n pi e g fi kind at_ fr to_ ro sl fm dst : Int) (nl nl2 : Bool) (rs acts : List (List AV)) (base : ByteArray) (Q : AV × List AObj → Prop) : inlW Try.prog H0 S6 6 (InO Try.prog H0 S6 6 6) 23 [cf n pi e g fi nl rs, .agg [.int .i64 kind, .int .i64 at_, .int .i64 fr, .int .i64 to_, .row nl2 [.int .i64, .int .i64, .str] acts, AV.nils], .int .i64 ro, .int .i64 sl, .int .i64 fm, .int .i64 dst, .str base] [] Q = (
((Hyp (s_confOk n pi e g fi (List.map (fun r => (r.getD (0 : Nat) AV.gone).toI) rs) = true)) ∧
(((Hyp ((0 : Int) < n ∧ n ≤ (1000 : Int))) ∧
(br (!s_hit n kind at_ fm dst)
 (Q ((AV.str base, [])))
 (br (decide (ro ≥ to_))
  (Q ((AV.str base, [])))
  (br (decide (ro < fr))
   (Q ((AV.str (ByteArray.mk #[]), [])))
   (chk ((↑acts.length : Int) ≤ (4611686018427387904 : Int)) (br (decide ((↑acts.length : Int) ≤ (0 : Int)))
    (Q ((AV.str (ByteArray.mk #[]), [])))
    (br (decide ((↑acts.length : Int) = (1 : Int)))
     (chk ((0 : Int) ≤ (0 : Int) ∧ (0 : Int) < (↑acts.length : Int)) (((Hyp (s_rem ((acts.getD (Int.toNat (0 : Int)) []).getD ((0 : Nat) + nat_lit 0) AV.gone).toI (7 : Int) ≤ (3 : Int) ∧
  (↑base.size : Int) ≤ (2305843009213693952 : Int) ∧
    (↑((acts.getD (Int.toNat (0 : Int)) []).getD ((0 : Nat) + nat_lit 2) AV.gone).toS.size : Int) ≤
      (2305843009213693952 : Int))) ∧
     (Q ((AV.str
    (s_done ((acts.getD (0 : Nat) []).getD (0 : Nat) AV.gone).toI ((acts.getD (0 : Nat) []).getD (1 : Nat) AV.gone).toI
      ((acts.getD (0 : Nat) []).getD (2 : Nat) AV.gone).toS base),
  []))))))
     (br (decide
  (s_rem
      (IntKind.i64.wrap
        (IntKind.i64.wrap (IntKind.i64.wrap ((17 : Int) * ro) + IntKind.i64.wrap ((5 : Int) * sl)) + dst))
      (↑acts.length : Int) <
    (0 : Int)))
      (Q ((AV.str (ByteArray.mk #[]), [])))
      (chk ((0 : Int) ≤
    s_rem
      (IntKind.i64.wrap
        (IntKind.i64.wrap (IntKind.i64.wrap ((17 : Int) * ro) + IntKind.i64.wrap ((5 : Int) * sl)) + dst))
      (↑acts.length : Int) ∧
  s_rem
      (IntKind.i64.wrap
        (IntKind.i64.wrap (IntKind.i64.wrap ((17 : Int) * ro) + IntKind.i64.wrap ((5 : Int) * sl)) + dst))
      (↑acts.length : Int) <
    (↑acts.length : Int)) (((Hyp (s_rem
      ((acts.getD
              (s_rem
                  (IntKind.i64.wrap
                    (IntKind.i64.wrap (IntKind.i64.wrap ((17 : Int) * ro) + IntKind.i64.wrap ((5 : Int) * sl)) + dst))
                  (↑acts.length : Int)).toNat
              []).getD
          ((0 : Nat) + nat_lit 0) AV.gone).toI
      (7 : Int) ≤
    (3 : Int) ∧
  (↑base.size : Int) ≤ (2305843009213693952 : Int) ∧
    (↑((acts.getD
                    (s_rem
                        (IntKind.i64.wrap
                          (IntKind.i64.wrap (IntKind.i64.wrap ((17 : Int) * ro) + IntKind.i64.wrap ((5 : Int) * sl)) +
                            dst))
                        (↑acts.length : Int)).toNat
                    []).getD
                ((0 : Nat) + nat_lit 2) AV.gone).toS.size :
        Int) ≤
      (2305843009213693952 : Int))) ∧
      (Q ((AV.str
    (s_done
      ((acts.getD
              (s_rem
                  (IntKind.i64.wrap
                    (IntKind.i64.wrap (IntKind.i64.wrap ((17 : Int) * ro) + IntKind.i64.wrap ((5 : Int) * sl)) + dst))
                  (↑acts.length : Int)).toNat
              []).getD
          (0 : Nat) AV.gone).toI
      ((acts.getD
              (s_rem
                  (IntKind.i64.wrap
                    (IntKind.i64.wrap (IntKind.i64.wrap ((17 : Int) * ro) + IntKind.i64.wrap ((5 : Int) * sl)) + dst))
                  (↑acts.length : Int)).toNat
              []).getD
          (1 : Nat) AV.gone).toI
      ((acts.getD
              (s_rem
                  (IntKind.i64.wrap
                    (IntKind.i64.wrap (IntKind.i64.wrap ((17 : Int) * ro) + IntKind.i64.wrap ((5 : Int) * sl)) + dst))
                  (↑acts.length : Int)).toNat
              []).getD
          (2 : Nat) AV.gone).toS
      base),
  []))))))))))))))))) := by kernel_rfl
theorem nf23r (n pi e g fi kind at_ fr to_ ro sl fm dst : Int) (nl nl2 : Bool) (rs acts : List (List AV)) (base : ByteArray) (nl3 : Bool) (sh3 : List K) (ds : List (List AV)) (Q : AV × List AObj → Prop) : inlW Try.prog H0 S6 6 (InO Try.prog H0 S6 6 6) 23 [cf n pi e g fi nl rs, .agg [.int .i64 kind, .int .i64 at_, .int .i64 fr, .int .i64 to_, .row nl2 [.int .i64, .int .i64, .str] acts, AV.row nl3 sh3 ds], .int .i64 ro, .int .i64 sl, .int .i64 fm, .int .i64 dst, .str base] [] Q = (
((Hyp (s_confOk n pi e g fi (List.map (fun r => (r.getD (0 : Nat) AV.gone).toI) rs) = true)) ∧
(((Hyp ((0 : Int) < n ∧ n ≤ (1000 : Int))) ∧
(br (!s_hit n kind at_ fm dst)
 (Q ((AV.str base, [])))
 (br (decide (ro ≥ to_))
  (Q ((AV.str base, [])))
  (br (decide (ro < fr))
   (Q ((AV.str (ByteArray.mk #[]), [])))
   (chk ((↑acts.length : Int) ≤ (4611686018427387904 : Int)) (br (decide ((↑acts.length : Int) ≤ (0 : Int)))
    (Q ((AV.str (ByteArray.mk #[]), [])))
    (br (decide ((↑acts.length : Int) = (1 : Int)))
     (chk ((0 : Int) ≤ (0 : Int) ∧ (0 : Int) < (↑acts.length : Int)) (((Hyp (s_rem ((acts.getD (Int.toNat (0 : Int)) []).getD ((0 : Nat) + nat_lit 0) AV.gone).toI (7 : Int) ≤ (3 : Int) ∧
  (↑base.size : Int) ≤ (2305843009213693952 : Int) ∧
    (↑((acts.getD (Int.toNat (0 : Int)) []).getD ((0 : Nat) + nat_lit 2) AV.gone).toS.size : Int) ≤
      (2305843009213693952 : Int))) ∧
     (Q ((AV.str
    (s_done ((acts.getD (0 : Nat) []).getD (0 : Nat) AV.gone).toI ((acts.getD (0 : Nat) []).getD (1 : Nat) AV.gone).toI
      ((acts.getD (0 : Nat) []).getD (2 : Nat) AV.gone).toS base),
  []))))))
     (br (decide
  (s_rem
      (IntKind.i64.wrap
        (IntKind.i64.wrap (IntKind.i64.wrap ((17 : Int) * ro) + IntKind.i64.wrap ((5 : Int) * sl)) + dst))
      (↑acts.length : Int) <
    (0 : Int)))
      (Q ((AV.str (ByteArray.mk #[]), [])))
      (chk ((0 : Int) ≤
    s_rem
      (IntKind.i64.wrap
        (IntKind.i64.wrap (IntKind.i64.wrap ((17 : Int) * ro) + IntKind.i64.wrap ((5 : Int) * sl)) + dst))
      (↑acts.length : Int) ∧
  s_rem
      (IntKind.i64.wrap
        (IntKind.i64.wrap (IntKind.i64.wrap ((17 : Int) * ro) + IntKind.i64.wrap ((5 : Int) * sl)) + dst))
      (↑acts.length : Int) <
    (↑acts.length : Int)) (((Hyp (s_rem
      ((acts.getD
              (s_rem
                  (IntKind.i64.wrap
                    (IntKind.i64.wrap (IntKind.i64.wrap ((17 : Int) * ro) + IntKind.i64.wrap ((5 : Int) * sl)) + dst))
                  (↑acts.length : Int)).toNat
              []).getD
          ((0 : Nat) + nat_lit 0) AV.gone).toI
      (7 : Int) ≤
    (3 : Int) ∧
  (↑base.size : Int) ≤ (2305843009213693952 : Int) ∧
    (↑((acts.getD
                    (s_rem
                        (IntKind.i64.wrap
                          (IntKind.i64.wrap (IntKind.i64.wrap ((17 : Int) * ro) + IntKind.i64.wrap ((5 : Int) * sl)) +
                            dst))
                        (↑acts.length : Int)).toNat
                    []).getD
                ((0 : Nat) + nat_lit 2) AV.gone).toS.size :
        Int) ≤
      (2305843009213693952 : Int))) ∧
      (Q ((AV.str
    (s_done
      ((acts.getD
              (s_rem
                  (IntKind.i64.wrap
                    (IntKind.i64.wrap (IntKind.i64.wrap ((17 : Int) * ro) + IntKind.i64.wrap ((5 : Int) * sl)) + dst))
                  (↑acts.length : Int)).toNat
              []).getD
          (0 : Nat) AV.gone).toI
      ((acts.getD
              (s_rem
                  (IntKind.i64.wrap
                    (IntKind.i64.wrap (IntKind.i64.wrap ((17 : Int) * ro) + IntKind.i64.wrap ((5 : Int) * sl)) + dst))
                  (↑acts.length : Int)).toNat
              []).getD
          (1 : Nat) AV.gone).toI
      ((acts.getD
              (s_rem
                  (IntKind.i64.wrap
                    (IntKind.i64.wrap (IntKind.i64.wrap ((17 : Int) * ro) + IntKind.i64.wrap ((5 : Int) * sl)) + dst))
                  (↑acts.length : Int)).toNat
              []).getD
          (2 : Nat) AV.gone).toS
      base),
  []))))))))))))))))) := by kernel_rfl
end Go.Proofs.YtikmaidjpffakaaE
