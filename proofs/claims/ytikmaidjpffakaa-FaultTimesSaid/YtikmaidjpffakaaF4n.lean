/- What path mode says of functions, printed by a program of this session; the kernel holds each. -/
import Derived.Test.YtikmaidjpffakaaF2d
import Derived.KernelRfl
namespace Go.Proofs.YtikmaidjpffakaaE
open Go
set_option maxRecDepth 100000
set_option linter.unusedVariables false
theorem nf9 (n pi e g fi at_ fr sp ro : Int) (nl nl2 : Bool) (rs ns : List (List AV)) (Q : AV × List AObj → Prop) : inlW Try.prog H0 S7 6 (InO Try.prog H0 S7 6 6) 9 [cf n pi e g fi nl rs, .int .i64 at_, .int .i64 fr, .int .i64 sp, .int .i64 ro, .row nl2 [.int .i64] ns] [] Q = (
(∀ (n'100 : Int),
(∀ (pi'101 : Int),
(∀ (e'102 : Int),
(∀ (g'103 : Int),
(∀ (fi'104 : Int),
(∀ (nl'105 : Bool),
(∀ (ps106 : List Int),
((s_made n'100 pi'101 e'102 g'103 fi'104 ps106) →
chk ((0 : Int) < n'100 ∧ n'100 < (9223372036854775808 : Int)) ((∀ (s109 : ByteArray),
((s109.size ≤ (80 : Nat)) →
chk ((↑((1 : Nat) + s109.size) : Int) ≤ (9223372036854775807 : Int)) (((Hyp ((↑((ByteArray.mk #[(48 : UInt8)]) ++ s109).size : Int) ≤ (4611686018427387904 : Int))) ∧
(chk (n'100 ≠ (0 : Int)) (((Hyp (s_confOk n'100 pi'101 e'102 g'103 fi'104 (ints (irow IntKind.i64 ps106)) = true ∧
  (0 : Int) ≤ s_rem ro (1000 : Int) ∧
    s_rem ro (1000 : Int) ≤ (1000000 : Int) ∧
      (0 : Int) ≤ (0 : Int) ∧
        (0 : Int) ≤ (1000000 : Int) ∧
          (0 : Int) ≤ (IntKind.i64.wrap (s_rem at_ n'100 + (1 : Int))).tmod n'100 ∧
            (IntKind.i64.wrap (s_rem at_ n'100 + (1 : Int))).tmod n'100 ≤ (1000000 : Int) ∧
              (↑(s_clean ((ByteArray.mk #[(48 : UInt8)]) ++ s109)).size : Int) ≤ (2305843009213693952 : Int) ∧
                s_actsOk
                  (List.take (1 : Nat)
                    (List.drop (0 : Nat)
                      [[AV.int IntKind.i64 (3 : Int), AV.int IntKind.i64 (0 : Int),
                          AV.str (ByteArray.mk #[(49 : UInt8), (35 : UInt8)])]])))) ∧
(chk (n'100 ≠ (0 : Int)) (chk (n'100 ≠ (0 : Int)) (((Hyp (s_confOk n'100 pi'101 e'102 g'103 fi'104 (ints (irow IntKind.i64 ps106)) = true ∧
  (0 : Int) ≤ s_rem ro (1000 : Int) ∧
    s_rem ro (1000 : Int) ≤ (1000000 : Int) ∧
      (0 : Int) ≤ (0 : Int) ∧
        (0 : Int) ≤ (1000000 : Int) ∧
          (0 : Int) ≤ (IntKind.i64.wrap (s_rem at_ n'100 + (2 : Int))).tmod n'100 ∧
            (IntKind.i64.wrap (s_rem at_ n'100 + (2 : Int))).tmod n'100 ≤ (1000000 : Int) ∧
              (↑(s_clean ((ByteArray.mk #[(48 : UInt8)]) ++ s109)).size : Int) ≤ (2305843009213693952 : Int) ∧
                s_actsOk
                  (List.take (1 : Nat)
                    (List.drop (0 : Nat)
                      [[AV.int IntKind.i64 (3 : Int), AV.int IntKind.i64 (0 : Int),
                          AV.str (ByteArray.mk #[(49 : UInt8), (35 : UInt8)])]])))) ∧
(br (decide (s_rem ro (1000 : Int) ≥ IntKind.i64.wrap (s_rem fr (500 : Int) + s_rem sp (500 : Int))))
 (br ((s_emit
      (s_hit n'100 (1 : Int) (s_rem at_ n'100) (s_rem at_ n'100)
        ((IntKind.i64.wrap (s_rem at_ n'100 + (1 : Int))).tmod n'100))
      (s_rem fr (500 : Int)) (IntKind.i64.wrap (s_rem fr (500 : Int) + s_rem sp (500 : Int)))
      [[AV.int IntKind.i64 (3 : Int), AV.int IntKind.i64 (0 : Int), AV.str (ByteArray.mk #[(49 : UInt8), (35 : UInt8)])]]
      (s_rem ro (1000 : Int)) (0 : Int) ((IntKind.i64.wrap (s_rem at_ n'100 + (1 : Int))).tmod n'100)
      (s_clean ((ByteArray.mk #[(48 : UInt8)]) ++ s109))).toList ==
  (s_clean ((ByteArray.mk #[(48 : UInt8)]) ++ s109)).toList)
  (br (s_right (1 : Int) (s_rem at_ n'100) (IntKind.i64.wrap (s_rem fr (500 : Int) + s_rem sp (500 : Int)))
  (s_rem ro (1000 : Int)) (s_rem at_ n'100))
   (Q ((AV.bool
    ((s_emit
          (s_hit n'100 (1 : Int) (s_rem at_ n'100) ((IntKind.i64.wrap (s_rem at_ n'100 + (1 : Int))).tmod n'100)
            ((IntKind.i64.wrap (s_rem at_ n'100 + (2 : Int))).tmod n'100))
          (s_rem fr (500 : Int)) (IntKind.i64.wrap (s_rem fr (500 : Int) + s_rem sp (500 : Int)))
          [[AV.int IntKind.i64 (3 : Int), AV.int IntKind.i64 (0 : Int),
              AV.str (ByteArray.mk #[(49 : UInt8), (35 : UInt8)])]]
          (s_rem ro (1000 : Int)) (0 : Int) ((IntKind.i64.wrap (s_rem at_ n'100 + (2 : Int))).tmod n'100)
          (s_clean ((ByteArray.mk #[(48 : UInt8)]) ++ s109))).toList ==
      (s_clean ((ByteArray.mk #[(48 : UInt8)]) ++ s109)).toList),
  [])))
   (Q ((AV.bool false, []))))
  (Q ((AV.bool false, []))))
 (br (decide (s_rem ro (1000 : Int) < s_rem fr (500 : Int)))
  (br ((s_emit
      (s_hit n'100 (1 : Int) (s_rem at_ n'100) (s_rem at_ n'100)
        ((IntKind.i64.wrap (s_rem at_ n'100 + (1 : Int))).tmod n'100))
      (s_rem fr (500 : Int)) (IntKind.i64.wrap (s_rem fr (500 : Int) + s_rem sp (500 : Int)))
      [[AV.int IntKind.i64 (3 : Int), AV.int IntKind.i64 (0 : Int), AV.str (ByteArray.mk #[(49 : UInt8), (35 : UInt8)])]]
      (s_rem ro (1000 : Int)) (0 : Int) ((IntKind.i64.wrap (s_rem at_ n'100 + (1 : Int))).tmod n'100)
      (s_clean ((ByteArray.mk #[(48 : UInt8)]) ++ s109))).toList ==
  (ByteArray.mk #[]).toList)
   (br (!s_right (1 : Int) (s_rem at_ n'100) (IntKind.i64.wrap (s_rem fr (500 : Int) + s_rem sp (500 : Int)))
    (s_rem ro (1000 : Int)) (s_rem at_ n'100))
    (Q ((AV.bool
    ((s_emit
          (s_hit n'100 (1 : Int) (s_rem at_ n'100) ((IntKind.i64.wrap (s_rem at_ n'100 + (1 : Int))).tmod n'100)
            ((IntKind.i64.wrap (s_rem at_ n'100 + (2 : Int))).tmod n'100))
          (s_rem fr (500 : Int)) (IntKind.i64.wrap (s_rem fr (500 : Int) + s_rem sp (500 : Int)))
          [[AV.int IntKind.i64 (3 : Int), AV.int IntKind.i64 (0 : Int),
              AV.str (ByteArray.mk #[(49 : UInt8), (35 : UInt8)])]]
          (s_rem ro (1000 : Int)) (0 : Int) ((IntKind.i64.wrap (s_rem at_ n'100 + (2 : Int))).tmod n'100)
          (s_clean ((ByteArray.mk #[(48 : UInt8)]) ++ s109))).toList ==
      (s_clean ((ByteArray.mk #[(48 : UInt8)]) ++ s109)).toList),
  [])))
    (Q ((AV.bool false, []))))
   (Q ((AV.bool false, []))))
  (br ((s_emit
      (s_hit n'100 (1 : Int) (s_rem at_ n'100) (s_rem at_ n'100)
        ((IntKind.i64.wrap (s_rem at_ n'100 + (1 : Int))).tmod n'100))
      (s_rem fr (500 : Int)) (IntKind.i64.wrap (s_rem fr (500 : Int) + s_rem sp (500 : Int)))
      [[AV.int IntKind.i64 (3 : Int), AV.int IntKind.i64 (0 : Int), AV.str (ByteArray.mk #[(49 : UInt8), (35 : UInt8)])]]
      (s_rem ro (1000 : Int)) (0 : Int) ((IntKind.i64.wrap (s_rem at_ n'100 + (1 : Int))).tmod n'100)
      (s_clean ((ByteArray.mk #[(48 : UInt8)]) ++ s109))).toList ==
  (ByteArray.mk #[(49 : UInt8), (35 : UInt8)]).toList)
   (br (!s_right (1 : Int) (s_rem at_ n'100) (IntKind.i64.wrap (s_rem fr (500 : Int) + s_rem sp (500 : Int)))
    (s_rem ro (1000 : Int)) (s_rem at_ n'100))
    (br ((s_emit
      (s_hit n'100 (1 : Int) (s_rem at_ n'100) ((IntKind.i64.wrap (s_rem at_ n'100 + (1 : Int))).tmod n'100)
        ((IntKind.i64.wrap (s_rem at_ n'100 + (2 : Int))).tmod n'100))
      (s_rem fr (500 : Int)) (IntKind.i64.wrap (s_rem fr (500 : Int) + s_rem sp (500 : Int)))
      [[AV.int IntKind.i64 (3 : Int), AV.int IntKind.i64 (0 : Int), AV.str (ByteArray.mk #[(49 : UInt8), (35 : UInt8)])]]
      (s_rem ro (1000 : Int)) (0 : Int) ((IntKind.i64.wrap (s_rem at_ n'100 + (2 : Int))).tmod n'100)
      (s_clean ((ByteArray.mk #[(48 : UInt8)]) ++ s109))).toList ==
  (s_clean ((ByteArray.mk #[(48 : UInt8)]) ++ s109)).toList)
     (chk (n'100 ≠ (0 : Int)) (Q ((AV.bool
    (s_right (1 : Int) (s_rem at_ n'100) (IntKind.i64.wrap (s_rem fr (500 : Int) + s_rem sp (500 : Int)))
      (s_rem ro (1000 : Int)) ((IntKind.i64.wrap (s_rem at_ n'100 + (1 : Int))).tmod n'100)),
  []))))
     (Q ((AV.bool false, []))))
    (Q ((AV.bool false, []))))
   (Q ((AV.bool false, []))))))))))))))))))))))))))) := by kernel_rfl
theorem nf8 (n pi e g fi li a b ro : Int) (nl : Bool) (rs : List (List AV)) (Q : AV × List AObj → Prop) : inlW Try.prog H0 S7 6 (InO Try.prog H0 S7 6 6) 8 [cf n pi e g fi nl rs, .int .i64 li, .int .i64 a, .int .i64 b, .int .i64 ro] [] Q = (
(∀ (n'100 : Int),
(∀ (pi'101 : Int),
(∀ (e'102 : Int),
(∀ (g'103 : Int),
(∀ (fi'104 : Int),
(∀ (nl'105 : Bool),
(∀ (ps106 : List Int),
((s_made n'100 pi'101 e'102 g'103 fi'104 ps106) →
chk ((0 : Int) < IntKind.i64.wrap ((2 : Int) * n'100) ∧ IntKind.i64.wrap ((2 : Int) * n'100) < (9223372036854775808 : Int)) (br (decide (s_rem li (IntKind.i64.wrap ((2 : Int) * n'100)) < n'100))
 (chk (n'100 ≠ (0 : Int)) (chk ((0 : Int) < n'100 ∧ n'100 < (9223372036854775808 : Int)) (chk ((0 : Int) < n'100 ∧ n'100 < (9223372036854775808 : Int)) (((Hyp ((6 : Int) ≤ n'100 ∧
  n'100 ≤ (12 : Int) ∧
    (0 : Int) ≤ s_rem a n'100 ∧ s_rem a n'100 < n'100 ∧ (0 : Int) ≤ s_rem b n'100 ∧ s_rem b n'100 < n'100)) ∧
 (((Hyp ((0 : Int) < n'100 ∧ n'100 ≤ (1000 : Int))) ∧
 (br (s_hit n'100 (2 : Int) (s_rem li (IntKind.i64.wrap ((2 : Int) * n'100)))
  (s_rem li (IntKind.i64.wrap ((2 : Int) * n'100)))
  ((IntKind.i64.wrap (s_rem li (IntKind.i64.wrap ((2 : Int) * n'100)) + (1 : Int))).tmod n'100))
  (((Hyp ((0 : Int) < n'100 ∧ n'100 ≤ (1000 : Int))) ∧
  (br (s_hit n'100 (2 : Int) (s_rem li (IntKind.i64.wrap ((2 : Int) * n'100)))
  ((IntKind.i64.wrap (s_rem li (IntKind.i64.wrap ((2 : Int) * n'100)) + (1 : Int))).tmod n'100)
  (s_rem li (IntKind.i64.wrap ((2 : Int) * n'100))))
   (((Hyp ((0 : Int) < n'100 ∧ n'100 ≤ (1000 : Int))) ∧
   (br (s_linkB n'100 (s_rem a n'100) (s_rem b n'100))
    (br (s_hit n'100 (2 : Int) (s_rem li (IntKind.i64.wrap ((2 : Int) * n'100))) (s_rem a n'100) (s_rem b n'100) ==
  (s_linkN n'100 (s_rem a n'100) (s_rem b n'100) == s_rem li (IntKind.i64.wrap ((2 : Int) * n'100))))
     (((Hyp (s_confOk n'100 pi'101 e'102 g'103 fi'104 (ints (irow IntKind.i64 ps106)) = true ∧
  (0 : Int) ≤ s_rem ro (999 : Int) ∧
    s_rem ro (999 : Int) ≤ (1000000 : Int) ∧
      (0 : Int) ≤ (0 : Int) ∧
        (0 : Int) ≤ (1000000 : Int) ∧
          (0 : Int) ≤ (IntKind.i64.wrap (s_rem li (IntKind.i64.wrap ((2 : Int) * n'100)) + (1 : Int))).tmod n'100 ∧
            (IntKind.i64.wrap (s_rem li (IntKind.i64.wrap ((2 : Int) * n'100)) + (1 : Int))).tmod n'100 ≤
                (1000000 : Int) ∧
              (↑(ByteArray.mk #[(49 : UInt8)]).size : Int) ≤ (2305843009213693952 : Int) ∧
                s_actsOk
                  (List.take (1 : Nat)
                    (List.drop (0 : Nat)
                      [[AV.int IntKind.i64 (0 : Int), AV.int IntKind.i64 (0 : Int), AV.str (ByteArray.mk #[])]])))) ∧
     (br ((s_emit
      (s_hit n'100 (2 : Int) (s_rem li (IntKind.i64.wrap ((2 : Int) * n'100)))
        (s_rem li (IntKind.i64.wrap ((2 : Int) * n'100)))
        ((IntKind.i64.wrap (s_rem li (IntKind.i64.wrap ((2 : Int) * n'100)) + (1 : Int))).tmod n'100))
      (0 : Int) (1000 : Int) [[AV.int IntKind.i64 (0 : Int), AV.int IntKind.i64 (0 : Int), AV.str (ByteArray.mk #[])]]
      (s_rem ro (999 : Int)) (0 : Int)
      ((IntKind.i64.wrap (s_rem li (IntKind.i64.wrap ((2 : Int) * n'100)) + (1 : Int))).tmod n'100)
      (ByteArray.mk #[(49 : UInt8)])).toList ==
  (ByteArray.mk #[]).toList)
      (((Hyp (s_confOk n'100 pi'101 e'102 g'103 fi'104 (ints (irow IntKind.i64 ps106)) = true ∧
  (0 : Int) ≤ s_rem ro (999 : Int) ∧
    s_rem ro (999 : Int) ≤ (1000000 : Int) ∧
      (0 : Int) ≤ (0 : Int) ∧
        (0 : Int) ≤ (1000000 : Int) ∧
          (0 : Int) ≤ s_rem li (IntKind.i64.wrap ((2 : Int) * n'100)) ∧
            s_rem li (IntKind.i64.wrap ((2 : Int) * n'100)) ≤ (1000000 : Int) ∧
              (↑(ByteArray.mk #[(49 : UInt8)]).size : Int) ≤ (2305843009213693952 : Int) ∧
                s_actsOk
                  (List.take (1 : Nat)
                    (List.drop (0 : Nat)
                      [[AV.int IntKind.i64 (0 : Int), AV.int IntKind.i64 (0 : Int), AV.str (ByteArray.mk #[])]])))) ∧
      (br ((s_emit
      (s_hit n'100 (2 : Int) (s_rem li (IntKind.i64.wrap ((2 : Int) * n'100)))
        ((IntKind.i64.wrap (s_rem li (IntKind.i64.wrap ((2 : Int) * n'100)) + (1 : Int))).tmod n'100)
        (s_rem li (IntKind.i64.wrap ((2 : Int) * n'100))))
      (0 : Int) (1000 : Int) [[AV.int IntKind.i64 (0 : Int), AV.int IntKind.i64 (0 : Int), AV.str (ByteArray.mk #[])]]
      (s_rem ro (999 : Int)) (0 : Int) (s_rem li (IntKind.i64.wrap ((2 : Int) * n'100)))
      (ByteArray.mk #[(49 : UInt8)])).toList ==
  (ByteArray.mk #[]).toList)
       (br (s_linkB n'100 (s_rem a n'100) (s_rem b n'100))
        (br (s_linkN n'100 (s_rem a n'100) (s_rem b n'100) == s_rem li (IntKind.i64.wrap ((2 : Int) * n'100)))
         (Q ((AV.bool
    (s_right (2 : Int) (s_rem li (IntKind.i64.wrap ((2 : Int) * n'100))) (1000 : Int) (s_rem ro (999 : Int))
      (s_rem li (IntKind.i64.wrap ((2 : Int) * n'100)))),
  [])))
         (br (!s_linkB n'100 (s_rem a n'100) (s_rem b n'100))
          (Q ((AV.bool
    (s_right (2 : Int) (s_rem li (IntKind.i64.wrap ((2 : Int) * n'100))) (1000 : Int) (s_rem ro (999 : Int))
      (s_rem li (IntKind.i64.wrap ((2 : Int) * n'100)))),
  [])))
          (((Hyp (s_confOk n'100 pi'101 e'102 g'103 fi'104 (ints (irow IntKind.i64 ps106)) = true ∧
  (0 : Int) ≤ s_rem ro (999 : Int) ∧
    s_rem ro (999 : Int) ≤ (1000000 : Int) ∧
      (0 : Int) ≤ (0 : Int) ∧
        (0 : Int) ≤ (1000000 : Int) ∧
          (0 : Int) ≤ s_rem b n'100 ∧
            s_rem b n'100 ≤ (1000000 : Int) ∧
              (↑(ByteArray.mk #[(49 : UInt8)]).size : Int) ≤ (2305843009213693952 : Int) ∧
                s_actsOk
                  (List.take (1 : Nat)
                    (List.drop (0 : Nat)
                      [[AV.int IntKind.i64 (0 : Int), AV.int IntKind.i64 (0 : Int), AV.str (ByteArray.mk #[])]])))) ∧
          (br ((s_emit (s_hit n'100 (2 : Int) (s_rem li (IntKind.i64.wrap ((2 : Int) * n'100))) (s_rem a n'100) (s_rem b n'100))
      (0 : Int) (1000 : Int) [[AV.int IntKind.i64 (0 : Int), AV.int IntKind.i64 (0 : Int), AV.str (ByteArray.mk #[])]]
      (s_rem ro (999 : Int)) (0 : Int) (s_rem b n'100) (ByteArray.mk #[(49 : UInt8)])).toList ==
  (ByteArray.mk #[(49 : UInt8)]).toList)
           (Q ((AV.bool
    (s_right (2 : Int) (s_rem li (IntKind.i64.wrap ((2 : Int) * n'100))) (1000 : Int) (s_rem ro (999 : Int))
      (s_rem li (IntKind.i64.wrap ((2 : Int) * n'100)))),
  [])))
           (Q ((AV.bool false, []))))))))
        (br (!s_linkB n'100 (s_rem a n'100) (s_rem b n'100))
         (Q ((AV.bool
    (s_right (2 : Int) (s_rem li (IntKind.i64.wrap ((2 : Int) * n'100))) (1000 : Int) (s_rem ro (999 : Int))
      (s_rem li (IntKind.i64.wrap ((2 : Int) * n'100)))),
  [])))
         (((Hyp (s_confOk n'100 pi'101 e'102 g'103 fi'104 (ints (irow IntKind.i64 ps106)) = true ∧
  (0 : Int) ≤ s_rem ro (999 : Int) ∧
    s_rem ro (999 : Int) ≤ (1000000 : Int) ∧
      (0 : Int) ≤ (0 : Int) ∧
        (0 : Int) ≤ (1000000 : Int) ∧
          (0 : Int) ≤ s_rem b n'100 ∧
            s_rem b n'100 ≤ (1000000 : Int) ∧
              (↑(ByteArray.mk #[(49 : UInt8)]).size : Int) ≤ (2305843009213693952 : Int) ∧
                s_actsOk
                  (List.take (1 : Nat)
                    (List.drop (0 : Nat)
                      [[AV.int IntKind.i64 (0 : Int), AV.int IntKind.i64 (0 : Int), AV.str (ByteArray.mk #[])]])))) ∧
         (br ((s_emit (s_hit n'100 (2 : Int) (s_rem li (IntKind.i64.wrap ((2 : Int) * n'100))) (s_rem a n'100) (s_rem b n'100))
      (0 : Int) (1000 : Int) [[AV.int IntKind.i64 (0 : Int), AV.int IntKind.i64 (0 : Int), AV.str (ByteArray.mk #[])]]
      (s_rem ro (999 : Int)) (0 : Int) (s_rem b n'100) (ByteArray.mk #[(49 : UInt8)])).toList ==
  (ByteArray.mk #[(49 : UInt8)]).toList)
          (Q ((AV.bool
    (s_right (2 : Int) (s_rem li (IntKind.i64.wrap ((2 : Int) * n'100))) (1000 : Int) (s_rem ro (999 : Int))
      (s_rem li (IntKind.i64.wrap ((2 : Int) * n'100)))),
  [])))
          (Q ((AV.bool false, []))))))))
       (Q ((AV.bool false, []))))))
      (Q ((AV.bool false, []))))))
     (Q ((AV.bool false, []))))
    (br (s_hit n'100 (2 : Int) (s_rem li (IntKind.i64.wrap ((2 : Int) * n'100))) (s_rem a n'100) (s_rem b n'100) == false)
     (((Hyp (s_confOk n'100 pi'101 e'102 g'103 fi'104 (ints (irow IntKind.i64 ps106)) = true ∧
  (0 : Int) ≤ s_rem ro (999 : Int) ∧
    s_rem ro (999 : Int) ≤ (1000000 : Int) ∧
      (0 : Int) ≤ (0 : Int) ∧
        (0 : Int) ≤ (1000000 : Int) ∧
          (0 : Int) ≤ (IntKind.i64.wrap (s_rem li (IntKind.i64.wrap ((2 : Int) * n'100)) + (1 : Int))).tmod n'100 ∧
            (IntKind.i64.wrap (s_rem li (IntKind.i64.wrap ((2 : Int) * n'100)) + (1 : Int))).tmod n'100 ≤
                (1000000 : Int) ∧
              (↑(ByteArray.mk #[(49 : UInt8)]).size : Int) ≤ (2305843009213693952 : Int) ∧
                s_actsOk
                  (List.take (1 : Nat)
                    (List.drop (0 : Nat)
                      [[AV.int IntKind.i64 (0 : Int), AV.int IntKind.i64 (0 : Int), AV.str (ByteArray.mk #[])]])))) ∧
     (br ((s_emit
      (s_hit n'100 (2 : Int) (s_rem li (IntKind.i64.wrap ((2 : Int) * n'100)))
        (s_rem li (IntKind.i64.wrap ((2 : Int) * n'100)))
        ((IntKind.i64.wrap (s_rem li (IntKind.i64.wrap ((2 : Int) * n'100)) + (1 : Int))).tmod n'100))
      (0 : Int) (1000 : Int) [[AV.int IntKind.i64 (0 : Int), AV.int IntKind.i64 (0 : Int), AV.str (ByteArray.mk #[])]]
      (s_rem ro (999 : Int)) (0 : Int)
      ((IntKind.i64.wrap (s_rem li (IntKind.i64.wrap ((2 : Int) * n'100)) + (1 : Int))).tmod n'100)
      (ByteArray.mk #[(49 : UInt8)])).toList ==
  (ByteArray.mk #[]).toList)
      (((Hyp (s_confOk n'100 pi'101 e'102 g'103 fi'104 (ints (irow IntKind.i64 ps106)) = true ∧
  (0 : Int) ≤ s_rem ro (999 : Int) ∧
    s_rem ro (999 : Int) ≤ (1000000 : Int) ∧
      (0 : Int) ≤ (0 : Int) ∧
        (0 : Int) ≤ (1000000 : Int) ∧
          (0 : Int) ≤ s_rem li (IntKind.i64.wrap ((2 : Int) * n'100)) ∧
            s_rem li (IntKind.i64.wrap ((2 : Int) * n'100)) ≤ (1000000 : Int) ∧
              (↑(ByteArray.mk #[(49 : UInt8)]).size : Int) ≤ (2305843009213693952 : Int) ∧
                s_actsOk
                  (List.take (1 : Nat)
                    (List.drop (0 : Nat)
                      [[AV.int IntKind.i64 (0 : Int), AV.int IntKind.i64 (0 : Int), AV.str (ByteArray.mk #[])]])))) ∧
      (br ((s_emit
      (s_hit n'100 (2 : Int) (s_rem li (IntKind.i64.wrap ((2 : Int) * n'100)))
        ((IntKind.i64.wrap (s_rem li (IntKind.i64.wrap ((2 : Int) * n'100)) + (1 : Int))).tmod n'100)
        (s_rem li (IntKind.i64.wrap ((2 : Int) * n'100))))
      (0 : Int) (1000 : Int) [[AV.int IntKind.i64 (0 : Int), AV.int IntKind.i64 (0 : Int), AV.str (ByteArray.mk #[])]]
      (s_rem ro (999 : Int)) (0 : Int) (s_rem li (IntKind.i64.wrap ((2 : Int) * n'100)))
      (ByteArray.mk #[(49 : UInt8)])).toList ==
  (ByteArray.mk #[]).toList)
       (br (s_linkB n'100 (s_rem a n'100) (s_rem b n'100))
        (br (s_linkN n'100 (s_rem a n'100) (s_rem b n'100) == s_rem li (IntKind.i64.wrap ((2 : Int) * n'100)))
         (Q ((AV.bool
    (s_right (2 : Int) (s_rem li (IntKind.i64.wrap ((2 : Int) * n'100))) (1000 : Int) (s_rem ro (999 : Int))
      (s_rem li (IntKind.i64.wrap ((2 : Int) * n'100)))),
  [])))
         (br (!s_linkB n'100 (s_rem a n'100) (s_rem b n'100))
          (Q ((AV.bool
    (s_right (2 : Int) (s_rem li (IntKind.i64.wrap ((2 : Int) * n'100))) (1000 : Int) (s_rem ro (999 : Int))
      (s_rem li (IntKind.i64.wrap ((2 : Int) * n'100)))),
  [])))
          (((Hyp (s_confOk n'100 pi'101 e'102 g'103 fi'104 (ints (irow IntKind.i64 ps106)) = true ∧
  (0 : Int) ≤ s_rem ro (999 : Int) ∧
    s_rem ro (999 : Int) ≤ (1000000 : Int) ∧
      (0 : Int) ≤ (0 : Int) ∧
        (0 : Int) ≤ (1000000 : Int) ∧
          (0 : Int) ≤ s_rem b n'100 ∧
            s_rem b n'100 ≤ (1000000 : Int) ∧
              (↑(ByteArray.mk #[(49 : UInt8)]).size : Int) ≤ (2305843009213693952 : Int) ∧
                s_actsOk
                  (List.take (1 : Nat)
                    (List.drop (0 : Nat)
                      [[AV.int IntKind.i64 (0 : Int), AV.int IntKind.i64 (0 : Int), AV.str (ByteArray.mk #[])]])))) ∧
          (br ((s_emit (s_hit n'100 (2 : Int) (s_rem li (IntKind.i64.wrap ((2 : Int) * n'100))) (s_rem a n'100) (s_rem b n'100))
      (0 : Int) (1000 : Int) [[AV.int IntKind.i64 (0 : Int), AV.int IntKind.i64 (0 : Int), AV.str (ByteArray.mk #[])]]
      (s_rem ro (999 : Int)) (0 : Int) (s_rem b n'100) (ByteArray.mk #[(49 : UInt8)])).toList ==
  (ByteArray.mk #[(49 : UInt8)]).toList)
           (Q ((AV.bool
    (s_right (2 : Int) (s_rem li (IntKind.i64.wrap ((2 : Int) * n'100))) (1000 : Int) (s_rem ro (999 : Int))
      (s_rem li (IntKind.i64.wrap ((2 : Int) * n'100)))),
  [])))
           (Q ((AV.bool false, []))))))))
        (br (!s_linkB n'100 (s_rem a n'100) (s_rem b n'100))
         (Q ((AV.bool
    (s_right (2 : Int) (s_rem li (IntKind.i64.wrap ((2 : Int) * n'100))) (1000 : Int) (s_rem ro (999 : Int))
      (s_rem li (IntKind.i64.wrap ((2 : Int) * n'100)))),
  [])))
         (((Hyp (s_confOk n'100 pi'101 e'102 g'103 fi'104 (ints (irow IntKind.i64 ps106)) = true ∧
  (0 : Int) ≤ s_rem ro (999 : Int) ∧
    s_rem ro (999 : Int) ≤ (1000000 : Int) ∧
      (0 : Int) ≤ (0 : Int) ∧
        (0 : Int) ≤ (1000000 : Int) ∧
          (0 : Int) ≤ s_rem b n'100 ∧
            s_rem b n'100 ≤ (1000000 : Int) ∧
              (↑(ByteArray.mk #[(49 : UInt8)]).size : Int) ≤ (2305843009213693952 : Int) ∧
                s_actsOk
                  (List.take (1 : Nat)
                    (List.drop (0 : Nat)
                      [[AV.int IntKind.i64 (0 : Int), AV.int IntKind.i64 (0 : Int), AV.str (ByteArray.mk #[])]])))) ∧
         (br ((s_emit (s_hit n'100 (2 : Int) (s_rem li (IntKind.i64.wrap ((2 : Int) * n'100))) (s_rem a n'100) (s_rem b n'100))
      (0 : Int) (1000 : Int) [[AV.int IntKind.i64 (0 : Int), AV.int IntKind.i64 (0 : Int), AV.str (ByteArray.mk #[])]]
      (s_rem ro (999 : Int)) (0 : Int) (s_rem b n'100) (ByteArray.mk #[(49 : UInt8)])).toList ==
  (ByteArray.mk #[(49 : UInt8)]).toList)
          (Q ((AV.bool
    (s_right (2 : Int) (s_rem li (IntKind.i64.wrap ((2 : Int) * n'100))) (1000 : Int) (s_rem ro (999 : Int))
      (s_rem li (IntKind.i64.wrap ((2 : Int) * n'100)))),
  [])))
          (Q ((AV.bool false, []))))))))
       (Q ((AV.bool false, []))))))
      (Q ((AV.bool false, []))))))
     (Q ((AV.bool false, [])))))))
   (Q ((AV.bool false, []))))))
  (Q ((AV.bool false, [])))))))))))
 (chk (n'100 ≠ (0 : Int)) (chk ((0 : Int) < n'100 ∧ n'100 < (9223372036854775808 : Int)) (chk ((0 : Int) < n'100 ∧ n'100 < (9223372036854775808 : Int)) (((Hyp ((6 : Int) ≤ n'100 ∧
  n'100 ≤ (12 : Int) ∧
    (0 : Int) ≤ s_rem a n'100 ∧ s_rem a n'100 < n'100 ∧ (0 : Int) ≤ s_rem b n'100 ∧ s_rem b n'100 < n'100)) ∧
 (((Hyp ((0 : Int) < n'100 ∧ n'100 ≤ (1000 : Int))) ∧
 (br (s_hit n'100 (2 : Int) (s_rem li (IntKind.i64.wrap ((2 : Int) * n'100)))
  (IntKind.i64.wrap (s_rem li (IntKind.i64.wrap ((2 : Int) * n'100)) - n'100))
  ((IntKind.i64.wrap (IntKind.i64.wrap (s_rem li (IntKind.i64.wrap ((2 : Int) * n'100)) - n'100) + (2 : Int))).tmod
    n'100))
  (((Hyp ((0 : Int) < n'100 ∧ n'100 ≤ (1000 : Int))) ∧
  (br (s_hit n'100 (2 : Int) (s_rem li (IntKind.i64.wrap ((2 : Int) * n'100)))
  ((IntKind.i64.wrap (IntKind.i64.wrap (s_rem li (IntKind.i64.wrap ((2 : Int) * n'100)) - n'100) + (2 : Int))).tmod
    n'100)
  (IntKind.i64.wrap (s_rem li (IntKind.i64.wrap ((2 : Int) * n'100)) - n'100)))
   (((Hyp ((0 : Int) < n'100 ∧ n'100 ≤ (1000 : Int))) ∧
   (br (s_linkB n'100 (s_rem a n'100) (s_rem b n'100))
    (br (s_hit n'100 (2 : Int) (s_rem li (IntKind.i64.wrap ((2 : Int) * n'100))) (s_rem a n'100) (s_rem b n'100) ==
  (s_linkN n'100 (s_rem a n'100) (s_rem b n'100) == s_rem li (IntKind.i64.wrap ((2 : Int) * n'100))))
     (((Hyp (s_confOk n'100 pi'101 e'102 g'103 fi'104 (ints (irow IntKind.i64 ps106)) = true ∧
  (0 : Int) ≤ s_rem ro (999 : Int) ∧
    s_rem ro (999 : Int) ≤ (1000000 : Int) ∧
      (0 : Int) ≤ (0 : Int) ∧
        (0 : Int) ≤ (1000000 : Int) ∧
          (0 : Int) ≤
              (IntKind.i64.wrap
                    (IntKind.i64.wrap (s_rem li (IntKind.i64.wrap ((2 : Int) * n'100)) - n'100) + (2 : Int))).tmod
                n'100 ∧
            (IntKind.i64.wrap
                      (IntKind.i64.wrap (s_rem li (IntKind.i64.wrap ((2 : Int) * n'100)) - n'100) + (2 : Int))).tmod
                  n'100 ≤
                (1000000 : Int) ∧
              (↑(ByteArray.mk #[(49 : UInt8)]).size : Int) ≤ (2305843009213693952 : Int) ∧
                s_actsOk
                  (List.take (1 : Nat)
                    (List.drop (0 : Nat)
                      [[AV.int IntKind.i64 (0 : Int), AV.int IntKind.i64 (0 : Int), AV.str (ByteArray.mk #[])]])))) ∧
     (br ((s_emit
      (s_hit n'100 (2 : Int) (s_rem li (IntKind.i64.wrap ((2 : Int) * n'100)))
        (IntKind.i64.wrap (s_rem li (IntKind.i64.wrap ((2 : Int) * n'100)) - n'100))
        ((IntKind.i64.wrap
              (IntKind.i64.wrap (s_rem li (IntKind.i64.wrap ((2 : Int) * n'100)) - n'100) + (2 : Int))).tmod
          n'100))
      (0 : Int) (1000 : Int) [[AV.int IntKind.i64 (0 : Int), AV.int IntKind.i64 (0 : Int), AV.str (ByteArray.mk #[])]]
      (s_rem ro (999 : Int)) (0 : Int)
      ((IntKind.i64.wrap (IntKind.i64.wrap (s_rem li (IntKind.i64.wrap ((2 : Int) * n'100)) - n'100) + (2 : Int))).tmod
        n'100)
      (ByteArray.mk #[(49 : UInt8)])).toList ==
  (ByteArray.mk #[]).toList)
      (((Hyp (s_confOk n'100 pi'101 e'102 g'103 fi'104 (ints (irow IntKind.i64 ps106)) = true ∧
  (0 : Int) ≤ s_rem ro (999 : Int) ∧
    s_rem ro (999 : Int) ≤ (1000000 : Int) ∧
      (0 : Int) ≤ (0 : Int) ∧
        (0 : Int) ≤ (1000000 : Int) ∧
          (0 : Int) ≤ IntKind.i64.wrap (s_rem li (IntKind.i64.wrap ((2 : Int) * n'100)) - n'100) ∧
            IntKind.i64.wrap (s_rem li (IntKind.i64.wrap ((2 : Int) * n'100)) - n'100) ≤ (1000000 : Int) ∧
              (↑(ByteArray.mk #[(49 : UInt8)]).size : Int) ≤ (2305843009213693952 : Int) ∧
                s_actsOk
                  (List.take (1 : Nat)
                    (List.drop (0 : Nat)
                      [[AV.int IntKind.i64 (0 : Int), AV.int IntKind.i64 (0 : Int), AV.str (ByteArray.mk #[])]])))) ∧
      (br ((s_emit
      (s_hit n'100 (2 : Int) (s_rem li (IntKind.i64.wrap ((2 : Int) * n'100)))
        ((IntKind.i64.wrap
              (IntKind.i64.wrap (s_rem li (IntKind.i64.wrap ((2 : Int) * n'100)) - n'100) + (2 : Int))).tmod
          n'100)
        (IntKind.i64.wrap (s_rem li (IntKind.i64.wrap ((2 : Int) * n'100)) - n'100)))
      (0 : Int) (1000 : Int) [[AV.int IntKind.i64 (0 : Int), AV.int IntKind.i64 (0 : Int), AV.str (ByteArray.mk #[])]]
      (s_rem ro (999 : Int)) (0 : Int) (IntKind.i64.wrap (s_rem li (IntKind.i64.wrap ((2 : Int) * n'100)) - n'100))
      (ByteArray.mk #[(49 : UInt8)])).toList ==
  (ByteArray.mk #[]).toList)
       (br (s_linkB n'100 (s_rem a n'100) (s_rem b n'100))
        (br (s_linkN n'100 (s_rem a n'100) (s_rem b n'100) == s_rem li (IntKind.i64.wrap ((2 : Int) * n'100)))
         (Q ((AV.bool
    (s_right (2 : Int) (s_rem li (IntKind.i64.wrap ((2 : Int) * n'100))) (1000 : Int) (s_rem ro (999 : Int))
      (IntKind.i64.wrap (s_rem li (IntKind.i64.wrap ((2 : Int) * n'100)) - n'100))),
  [])))
         (br (!s_linkB n'100 (s_rem a n'100) (s_rem b n'100))
          (Q ((AV.bool
    (s_right (2 : Int) (s_rem li (IntKind.i64.wrap ((2 : Int) * n'100))) (1000 : Int) (s_rem ro (999 : Int))
      (IntKind.i64.wrap (s_rem li (IntKind.i64.wrap ((2 : Int) * n'100)) - n'100))),
  [])))
          (((Hyp (s_confOk n'100 pi'101 e'102 g'103 fi'104 (ints (irow IntKind.i64 ps106)) = true ∧
  (0 : Int) ≤ s_rem ro (999 : Int) ∧
    s_rem ro (999 : Int) ≤ (1000000 : Int) ∧
      (0 : Int) ≤ (0 : Int) ∧
        (0 : Int) ≤ (1000000 : Int) ∧
          (0 : Int) ≤ s_rem b n'100 ∧
            s_rem b n'100 ≤ (1000000 : Int) ∧
              (↑(ByteArray.mk #[(49 : UInt8)]).size : Int) ≤ (2305843009213693952 : Int) ∧
                s_actsOk
                  (List.take (1 : Nat)
                    (List.drop (0 : Nat)
                      [[AV.int IntKind.i64 (0 : Int), AV.int IntKind.i64 (0 : Int), AV.str (ByteArray.mk #[])]])))) ∧
          (br ((s_emit (s_hit n'100 (2 : Int) (s_rem li (IntKind.i64.wrap ((2 : Int) * n'100))) (s_rem a n'100) (s_rem b n'100))
      (0 : Int) (1000 : Int) [[AV.int IntKind.i64 (0 : Int), AV.int IntKind.i64 (0 : Int), AV.str (ByteArray.mk #[])]]
      (s_rem ro (999 : Int)) (0 : Int) (s_rem b n'100) (ByteArray.mk #[(49 : UInt8)])).toList ==
  (ByteArray.mk #[(49 : UInt8)]).toList)
           (Q ((AV.bool
    (s_right (2 : Int) (s_rem li (IntKind.i64.wrap ((2 : Int) * n'100))) (1000 : Int) (s_rem ro (999 : Int))
      (IntKind.i64.wrap (s_rem li (IntKind.i64.wrap ((2 : Int) * n'100)) - n'100))),
  [])))
           (Q ((AV.bool false, []))))))))
        (br (!s_linkB n'100 (s_rem a n'100) (s_rem b n'100))
         (Q ((AV.bool
    (s_right (2 : Int) (s_rem li (IntKind.i64.wrap ((2 : Int) * n'100))) (1000 : Int) (s_rem ro (999 : Int))
      (IntKind.i64.wrap (s_rem li (IntKind.i64.wrap ((2 : Int) * n'100)) - n'100))),
  [])))
         (((Hyp (s_confOk n'100 pi'101 e'102 g'103 fi'104 (ints (irow IntKind.i64 ps106)) = true ∧
  (0 : Int) ≤ s_rem ro (999 : Int) ∧
    s_rem ro (999 : Int) ≤ (1000000 : Int) ∧
      (0 : Int) ≤ (0 : Int) ∧
        (0 : Int) ≤ (1000000 : Int) ∧
          (0 : Int) ≤ s_rem b n'100 ∧
            s_rem b n'100 ≤ (1000000 : Int) ∧
              (↑(ByteArray.mk #[(49 : UInt8)]).size : Int) ≤ (2305843009213693952 : Int) ∧
                s_actsOk
                  (List.take (1 : Nat)
                    (List.drop (0 : Nat)
                      [[AV.int IntKind.i64 (0 : Int), AV.int IntKind.i64 (0 : Int), AV.str (ByteArray.mk #[])]])))) ∧
         (br ((s_emit (s_hit n'100 (2 : Int) (s_rem li (IntKind.i64.wrap ((2 : Int) * n'100))) (s_rem a n'100) (s_rem b n'100))
      (0 : Int) (1000 : Int) [[AV.int IntKind.i64 (0 : Int), AV.int IntKind.i64 (0 : Int), AV.str (ByteArray.mk #[])]]
      (s_rem ro (999 : Int)) (0 : Int) (s_rem b n'100) (ByteArray.mk #[(49 : UInt8)])).toList ==
  (ByteArray.mk #[(49 : UInt8)]).toList)
          (Q ((AV.bool
    (s_right (2 : Int) (s_rem li (IntKind.i64.wrap ((2 : Int) * n'100))) (1000 : Int) (s_rem ro (999 : Int))
      (IntKind.i64.wrap (s_rem li (IntKind.i64.wrap ((2 : Int) * n'100)) - n'100))),
  [])))
          (Q ((AV.bool false, []))))))))
       (Q ((AV.bool false, []))))))
      (Q ((AV.bool false, []))))))
     (Q ((AV.bool false, []))))
    (br (s_hit n'100 (2 : Int) (s_rem li (IntKind.i64.wrap ((2 : Int) * n'100))) (s_rem a n'100) (s_rem b n'100) == false)
     (((Hyp (s_confOk n'100 pi'101 e'102 g'103 fi'104 (ints (irow IntKind.i64 ps106)) = true ∧
  (0 : Int) ≤ s_rem ro (999 : Int) ∧
    s_rem ro (999 : Int) ≤ (1000000 : Int) ∧
      (0 : Int) ≤ (0 : Int) ∧
        (0 : Int) ≤ (1000000 : Int) ∧
          (0 : Int) ≤
              (IntKind.i64.wrap
                    (IntKind.i64.wrap (s_rem li (IntKind.i64.wrap ((2 : Int) * n'100)) - n'100) + (2 : Int))).tmod
                n'100 ∧
            (IntKind.i64.wrap
                      (IntKind.i64.wrap (s_rem li (IntKind.i64.wrap ((2 : Int) * n'100)) - n'100) + (2 : Int))).tmod
                  n'100 ≤
                (1000000 : Int) ∧
              (↑(ByteArray.mk #[(49 : UInt8)]).size : Int) ≤ (2305843009213693952 : Int) ∧
                s_actsOk
                  (List.take (1 : Nat)
                    (List.drop (0 : Nat)
                      [[AV.int IntKind.i64 (0 : Int), AV.int IntKind.i64 (0 : Int), AV.str (ByteArray.mk #[])]])))) ∧
     (br ((s_emit
      (s_hit n'100 (2 : Int) (s_rem li (IntKind.i64.wrap ((2 : Int) * n'100)))
        (IntKind.i64.wrap (s_rem li (IntKind.i64.wrap ((2 : Int) * n'100)) - n'100))
        ((IntKind.i64.wrap
              (IntKind.i64.wrap (s_rem li (IntKind.i64.wrap ((2 : Int) * n'100)) - n'100) + (2 : Int))).tmod
          n'100))
      (0 : Int) (1000 : Int) [[AV.int IntKind.i64 (0 : Int), AV.int IntKind.i64 (0 : Int), AV.str (ByteArray.mk #[])]]
      (s_rem ro (999 : Int)) (0 : Int)
      ((IntKind.i64.wrap (IntKind.i64.wrap (s_rem li (IntKind.i64.wrap ((2 : Int) * n'100)) - n'100) + (2 : Int))).tmod
        n'100)
      (ByteArray.mk #[(49 : UInt8)])).toList ==
  (ByteArray.mk #[]).toList)
      (((Hyp (s_confOk n'100 pi'101 e'102 g'103 fi'104 (ints (irow IntKind.i64 ps106)) = true ∧
  (0 : Int) ≤ s_rem ro (999 : Int) ∧
    s_rem ro (999 : Int) ≤ (1000000 : Int) ∧
      (0 : Int) ≤ (0 : Int) ∧
        (0 : Int) ≤ (1000000 : Int) ∧
          (0 : Int) ≤ IntKind.i64.wrap (s_rem li (IntKind.i64.wrap ((2 : Int) * n'100)) - n'100) ∧
            IntKind.i64.wrap (s_rem li (IntKind.i64.wrap ((2 : Int) * n'100)) - n'100) ≤ (1000000 : Int) ∧
              (↑(ByteArray.mk #[(49 : UInt8)]).size : Int) ≤ (2305843009213693952 : Int) ∧
                s_actsOk
                  (List.take (1 : Nat)
                    (List.drop (0 : Nat)
                      [[AV.int IntKind.i64 (0 : Int), AV.int IntKind.i64 (0 : Int), AV.str (ByteArray.mk #[])]])))) ∧
      (br ((s_emit
      (s_hit n'100 (2 : Int) (s_rem li (IntKind.i64.wrap ((2 : Int) * n'100)))
        ((IntKind.i64.wrap
              (IntKind.i64.wrap (s_rem li (IntKind.i64.wrap ((2 : Int) * n'100)) - n'100) + (2 : Int))).tmod
          n'100)
        (IntKind.i64.wrap (s_rem li (IntKind.i64.wrap ((2 : Int) * n'100)) - n'100)))
      (0 : Int) (1000 : Int) [[AV.int IntKind.i64 (0 : Int), AV.int IntKind.i64 (0 : Int), AV.str (ByteArray.mk #[])]]
      (s_rem ro (999 : Int)) (0 : Int) (IntKind.i64.wrap (s_rem li (IntKind.i64.wrap ((2 : Int) * n'100)) - n'100))
      (ByteArray.mk #[(49 : UInt8)])).toList ==
  (ByteArray.mk #[]).toList)
       (br (s_linkB n'100 (s_rem a n'100) (s_rem b n'100))
        (br (s_linkN n'100 (s_rem a n'100) (s_rem b n'100) == s_rem li (IntKind.i64.wrap ((2 : Int) * n'100)))
         (Q ((AV.bool
    (s_right (2 : Int) (s_rem li (IntKind.i64.wrap ((2 : Int) * n'100))) (1000 : Int) (s_rem ro (999 : Int))
      (IntKind.i64.wrap (s_rem li (IntKind.i64.wrap ((2 : Int) * n'100)) - n'100))),
  [])))
         (br (!s_linkB n'100 (s_rem a n'100) (s_rem b n'100))
          (Q ((AV.bool
    (s_right (2 : Int) (s_rem li (IntKind.i64.wrap ((2 : Int) * n'100))) (1000 : Int) (s_rem ro (999 : Int))
      (IntKind.i64.wrap (s_rem li (IntKind.i64.wrap ((2 : Int) * n'100)) - n'100))),
  [])))
          (((Hyp (s_confOk n'100 pi'101 e'102 g'103 fi'104 (ints (irow IntKind.i64 ps106)) = true ∧
  (0 : Int) ≤ s_rem ro (999 : Int) ∧
    s_rem ro (999 : Int) ≤ (1000000 : Int) ∧
      (0 : Int) ≤ (0 : Int) ∧
        (0 : Int) ≤ (1000000 : Int) ∧
          (0 : Int) ≤ s_rem b n'100 ∧
            s_rem b n'100 ≤ (1000000 : Int) ∧
              (↑(ByteArray.mk #[(49 : UInt8)]).size : Int) ≤ (2305843009213693952 : Int) ∧
                s_actsOk
                  (List.take (1 : Nat)
                    (List.drop (0 : Nat)
                      [[AV.int IntKind.i64 (0 : Int), AV.int IntKind.i64 (0 : Int), AV.str (ByteArray.mk #[])]])))) ∧
          (br ((s_emit (s_hit n'100 (2 : Int) (s_rem li (IntKind.i64.wrap ((2 : Int) * n'100))) (s_rem a n'100) (s_rem b n'100))
      (0 : Int) (1000 : Int) [[AV.int IntKind.i64 (0 : Int), AV.int IntKind.i64 (0 : Int), AV.str (ByteArray.mk #[])]]
      (s_rem ro (999 : Int)) (0 : Int) (s_rem b n'100) (ByteArray.mk #[(49 : UInt8)])).toList ==
  (ByteArray.mk #[(49 : UInt8)]).toList)
           (Q ((AV.bool
    (s_right (2 : Int) (s_rem li (IntKind.i64.wrap ((2 : Int) * n'100))) (1000 : Int) (s_rem ro (999 : Int))
      (IntKind.i64.wrap (s_rem li (IntKind.i64.wrap ((2 : Int) * n'100)) - n'100))),
  [])))
           (Q ((AV.bool false, []))))))))
        (br (!s_linkB n'100 (s_rem a n'100) (s_rem b n'100))
         (Q ((AV.bool
    (s_right (2 : Int) (s_rem li (IntKind.i64.wrap ((2 : Int) * n'100))) (1000 : Int) (s_rem ro (999 : Int))
      (IntKind.i64.wrap (s_rem li (IntKind.i64.wrap ((2 : Int) * n'100)) - n'100))),
  [])))
         (((Hyp (s_confOk n'100 pi'101 e'102 g'103 fi'104 (ints (irow IntKind.i64 ps106)) = true ∧
  (0 : Int) ≤ s_rem ro (999 : Int) ∧
    s_rem ro (999 : Int) ≤ (1000000 : Int) ∧
      (0 : Int) ≤ (0 : Int) ∧
        (0 : Int) ≤ (1000000 : Int) ∧
          (0 : Int) ≤ s_rem b n'100 ∧
            s_rem b n'100 ≤ (1000000 : Int) ∧
              (↑(ByteArray.mk #[(49 : UInt8)]).size : Int) ≤ (2305843009213693952 : Int) ∧
                s_actsOk
                  (List.take (1 : Nat)
                    (List.drop (0 : Nat)
                      [[AV.int IntKind.i64 (0 : Int), AV.int IntKind.i64 (0 : Int), AV.str (ByteArray.mk #[])]])))) ∧
         (br ((s_emit (s_hit n'100 (2 : Int) (s_rem li (IntKind.i64.wrap ((2 : Int) * n'100))) (s_rem a n'100) (s_rem b n'100))
      (0 : Int) (1000 : Int) [[AV.int IntKind.i64 (0 : Int), AV.int IntKind.i64 (0 : Int), AV.str (ByteArray.mk #[])]]
      (s_rem ro (999 : Int)) (0 : Int) (s_rem b n'100) (ByteArray.mk #[(49 : UInt8)])).toList ==
  (ByteArray.mk #[(49 : UInt8)]).toList)
          (Q ((AV.bool
    (s_right (2 : Int) (s_rem li (IntKind.i64.wrap ((2 : Int) * n'100))) (1000 : Int) (s_rem ro (999 : Int))
      (IntKind.i64.wrap (s_rem li (IntKind.i64.wrap ((2 : Int) * n'100)) - n'100))),
  [])))
          (Q ((AV.bool false, []))))))))
       (Q ((AV.bool false, []))))))
      (Q ((AV.bool false, []))))))
     (Q ((AV.bool false, [])))))))
   (Q ((AV.bool false, []))))))
  (Q ((AV.bool false, []))))))))))))))))))))) := by kernel_rfl
end Go.Proofs.YtikmaidjpffakaaE
