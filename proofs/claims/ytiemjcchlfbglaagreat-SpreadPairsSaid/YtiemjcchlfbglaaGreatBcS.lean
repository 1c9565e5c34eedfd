/- SpreadPairs: its loop's spec. -/
import Derived.Test.YtiemjcchlfbglaaGreatBcR
import Derived.KernelRfl
namespace Go.Proofs.YtiemjcchlfbglaaGreatE
open Go
set_option linter.unusedVariables false

def s_outP (rows : List (List AV)) (i : Int) : ByteArray := s_out2 (rows.getD i.toNat [])
def s_prOk (fk fa ft ro p q : Int) (z z2 : ByteArray) (rows : List (List AV)) : Prop := ∀ j : Int, 0 ≤ j → j < rows.length → j ≠ p → j ≠ q → s_right fk fa ft ro j = true →
  (s_right fk fa ft ro p = true → s_front (s_outP rows j) z) ∧ (s_right fk fa ft ro q = true → s_front (s_outP rows j) z2) ∧ (s_right fk fa ft ro p = true → s_right fk fa ft ro q = true → z ≠ z2 → ¬ s_whole (s_outP rows j)) ∧ (s_outP rows j).size ≤ 1000000
def lPr : LW := fun vals h Q => match vals, h with
  | [.ptr 0 0, .row no [.int .i64] [[.int .i64 p], [.int .i64 q]], .row nw [.str, .str, .str, .int .i64] rows, .int .i64 i], [.box [.int .i64 n, .int .i64 pi, .int .i64 e, .int .i64 g, .int .i64 fi, .row nl [.int .i64] ps, .int .i64 fk, .int .i64 fa, .int .i64 ff, .int .i64 ft, .row nl3 [.int .i64, .int .i64, .str] acts, .row nl4 [.int .i64] ds, .int .i64 ro, .int .i64 sl, .int .i64 dir, .sl 1 0 2, .sl 2 0 m1, .sl 3 0 m2], .arr 0 9 [.str] [[.str z], [.str z2]], .arr 0 3 [.int .i64] sts, .arr 0 3 [.int .i64] dvs] =>
    Hyp (0 ≤ i ∧ i ≤ rows.length ∧ rows.length ≤ 12 ∧ m1 = sts.length ∧ m2 = dvs.length ∧ s_prOk fk fa ft ro p q z z2 rows) ∧ Q (.exit 0) [] []
  | _, _ => False
def P2L : Sp := ⟨P2.fn, [(5, 22, lPr)]⟩
end Go.Proofs.YtiemjcchlfbglaaGreatE
/- What path mode says of functions, printed by a program of this session; the kernel holds each. -/
namespace Go.Proofs.YtiemjcchlfbglaaGreatE
open Go
set_option maxRecDepth 100000
set_option linter.unusedVariables false
theorem nfPra (p q i n pi e g fi fk fa ff ft ro sl dir : Int) (no nl nl3 nl4 nw : Bool) (ps acts ds rows sts dvs : List (List AV)) (m1 m2 : Nat) (z z2 : ByteArray) (Q : Ex → List AV → List AObj → Prop) : lpBody Tryz.prog H0 P2 6 6 5 22 [.ptr 0 0, .row no [.int .i64] [[.int .i64 p], [.int .i64 q]], .row nw [.str, .str, .str, .int .i64] rows, .int .i64 i] [.box [.int .i64 n, .int .i64 pi, .int .i64 e, .int .i64 g, .int .i64 fi, .row nl [.int .i64] ps, .int .i64 fk, .int .i64 fa, .int .i64 ff, .int .i64 ft, .row nl3 [.int .i64, .int .i64, .str] acts, .row nl4 [.int .i64] ds, .int .i64 ro, .int .i64 sl, .int .i64 dir, .sl 1 0 2, .sl 2 0 m1, .sl 3 0 m2], .arr 0 9 [.str] [[.str z], [.str z2]], .arr 0 3 [.int .i64] sts, .arr 0 3 [.int .i64] dvs] Q = (
br (decide (i < (↑rows.length : Int)))
 (br (p == i)
  (Q (Ex.nrm) ([AV.ptr (0 : Nat) (0 : Nat), AV.row no [K.int IntKind.i64] [[AV.int IntKind.i64 p], [AV.int IntKind.i64 q]],
  AV.row nw [K.str, K.str, K.str, K.int IntKind.i64] rows, AV.int IntKind.i64 (IntKind.i64.wrap (i + (1 : Int)))]) ([AObj.box
    [AV.int IntKind.i64 n, AV.int IntKind.i64 pi, AV.int IntKind.i64 e, AV.int IntKind.i64 g, AV.int IntKind.i64 fi,
      AV.row nl [K.int IntKind.i64] ps, AV.int IntKind.i64 fk, AV.int IntKind.i64 fa, AV.int IntKind.i64 ff,
      AV.int IntKind.i64 ft, AV.row nl3 [K.int IntKind.i64, K.int IntKind.i64, K.str] acts,
      AV.row nl4 [K.int IntKind.i64] ds, AV.int IntKind.i64 ro, AV.int IntKind.i64 sl, AV.int IntKind.i64 dir,
      AV.sl (1 : Nat) (0 : Nat) (2 : Nat), AV.sl (2 : Nat) (0 : Nat) m1, AV.sl (3 : Nat) (0 : Nat) m2],
  AObj.arr (0 : Nat) (9 : Nat) [K.str] [[AV.str z], [AV.str z2]], AObj.arr (0 : Nat) (3 : Nat) [K.int IntKind.i64] sts,
  AObj.arr (0 : Nat) (3 : Nat) [K.int IntKind.i64] dvs]))
  (br (q == i)
   (Q (Ex.nrm) ([AV.ptr (0 : Nat) (0 : Nat), AV.row no [K.int IntKind.i64] [[AV.int IntKind.i64 p], [AV.int IntKind.i64 q]],
  AV.row nw [K.str, K.str, K.str, K.int IntKind.i64] rows, AV.int IntKind.i64 (IntKind.i64.wrap (i + (1 : Int)))]) ([AObj.box
    [AV.int IntKind.i64 n, AV.int IntKind.i64 pi, AV.int IntKind.i64 e, AV.int IntKind.i64 g, AV.int IntKind.i64 fi,
      AV.row nl [K.int IntKind.i64] ps, AV.int IntKind.i64 fk, AV.int IntKind.i64 fa, AV.int IntKind.i64 ff,
      AV.int IntKind.i64 ft, AV.row nl3 [K.int IntKind.i64, K.int IntKind.i64, K.str] acts,
      AV.row nl4 [K.int IntKind.i64] ds, AV.int IntKind.i64 ro, AV.int IntKind.i64 sl, AV.int IntKind.i64 dir,
      AV.sl (1 : Nat) (0 : Nat) (2 : Nat), AV.sl (2 : Nat) (0 : Nat) m1, AV.sl (3 : Nat) (0 : Nat) m2],
  AObj.arr (0 : Nat) (9 : Nat) [K.str] [[AV.str z], [AV.str z2]], AObj.arr (0 : Nat) (3 : Nat) [K.int IntKind.i64] sts,
  AObj.arr (0 : Nat) (3 : Nat) [K.int IntKind.i64] dvs]))
   (chk ((0 : Nat) + m1 ≤ sts.length) (chk ((0 : Nat) + m2 ≤ dvs.length) ((∀ (b105 : Bool),
   ((b105 = s_right fk fa ft ro i) →
   br (!b105)
    (Q (Ex.nrm) ([AV.ptr (0 : Nat) (0 : Nat), AV.row no [K.int IntKind.i64] [[AV.int IntKind.i64 p], [AV.int IntKind.i64 q]],
  AV.row nw [K.str, K.str, K.str, K.int IntKind.i64] rows, AV.int IntKind.i64 (IntKind.i64.wrap (i + (1 : Int)))]) ([AObj.box
    [AV.int IntKind.i64 n, AV.int IntKind.i64 pi, AV.int IntKind.i64 e, AV.int IntKind.i64 g, AV.int IntKind.i64 fi,
      AV.row nl [K.int IntKind.i64] ps, AV.int IntKind.i64 fk, AV.int IntKind.i64 fa, AV.int IntKind.i64 ff,
      AV.int IntKind.i64 ft, AV.row nl3 [K.int IntKind.i64, K.int IntKind.i64, K.str] acts,
      AV.row nl4 [K.int IntKind.i64] ds, AV.int IntKind.i64 ro, AV.int IntKind.i64 sl, AV.int IntKind.i64 dir,
      AV.sl (1 : Nat) (0 : Nat) (2 : Nat), AV.sl (2 : Nat) (0 : Nat) m1, AV.sl (3 : Nat) (0 : Nat) m2],
  AObj.arr (0 : Nat) (9 : Nat) [K.str] [[AV.str z], [AV.str z2]], AObj.arr (0 : Nat) (3 : Nat) [K.int IntKind.i64] sts,
  AObj.arr (0 : Nat) (3 : Nat) [K.int IntKind.i64] dvs]))
    (chk ((0 : Nat) + m1 ≤ sts.length) (chk ((0 : Nat) + m2 ≤ dvs.length) ((∀ (b110 : Bool),
    ((b110 = s_right fk fa ft ro p) →
    br (b110)
     (chk ((0 : Int) ≤ i ∧ i < (↑rows.length : Int)) ((∀ (b114 : Bool),
     (∀ (x'115 : ByteArray),
     (∀ (y'116 : ByteArray),
     ((x'115 = ((rows.getD i.toNat []).getD (2 : Nat) AV.gone).toS) →
     ((y'116 = z) →
     ((s_front x'115 y'116 → b114 = true) →
     br (!b114)
      (Q (Ex.ret) ([AV.bool false]) ([]))
      (chk ((0 : Nat) + m1 ≤ sts.length) (chk ((0 : Nat) + m2 ≤ dvs.length) ((∀ (b123 : Bool),
      ((b123 = s_right fk fa ft ro q) →
      br (b123)
       (chk ((0 : Int) ≤ i ∧ i < (↑rows.length : Int)) ((∀ (b127 : Bool),
       (∀ (x'128 : ByteArray),
       (∀ (y'129 : ByteArray),
       ((x'128 = ((rows.getD i.toNat []).getD (2 : Nat) AV.gone).toS) →
       ((y'129 = z2) →
       ((s_front x'128 y'129 → b127 = true) →
       br (!b127)
        (Q (Ex.ret) ([AV.bool false]) ([]))
        (chk ((0 : Nat) + m1 ≤ sts.length) (chk ((0 : Nat) + m2 ≤ dvs.length) ((∀ (b136 : Bool),
        ((b136 = s_right fk fa ft ro p) →
        br (b136)
         (chk ((0 : Nat) + m1 ≤ sts.length) (chk ((0 : Nat) + m2 ≤ dvs.length) ((∀ (b141 : Bool),
         ((b141 = s_right fk fa ft ro q) →
         br (b141)
          (br (!z.toList == z2.toList)
           (chk ((0 : Int) ≤ i ∧ i < (↑rows.length : Int)) (((Hyp (((rows.getD i.toNat []).getD (2 : Nat) AV.gone).toS.size ≤ (1000000 : Nat))) ∧
           ((∀ (b147 : Bool),
           (∀ (x'148 : ByteArray),
           ((x'148 = ((rows.getD i.toNat []).getD (2 : Nat) AV.gone).toS) →
           ((b147 = true → s_whole x'148) →
           br (b147)
            (Q (Ex.ret) ([AV.bool false]) ([]))
            (Q (Ex.nrm) ([AV.ptr (0 : Nat) (0 : Nat), AV.row no [K.int IntKind.i64] [[AV.int IntKind.i64 p], [AV.int IntKind.i64 q]],
  AV.row nw [K.str, K.str, K.str, K.int IntKind.i64] rows, AV.int IntKind.i64 (IntKind.i64.wrap (i + (1 : Int)))]) ([AObj.box
    [AV.int IntKind.i64 n, AV.int IntKind.i64 pi, AV.int IntKind.i64 e, AV.int IntKind.i64 g, AV.int IntKind.i64 fi,
      AV.row nl [K.int IntKind.i64] ps, AV.int IntKind.i64 fk, AV.int IntKind.i64 fa, AV.int IntKind.i64 ff,
      AV.int IntKind.i64 ft, AV.row nl3 [K.int IntKind.i64, K.int IntKind.i64, K.str] acts,
      AV.row nl4 [K.int IntKind.i64] ds, AV.int IntKind.i64 ro, AV.int IntKind.i64 sl, AV.int IntKind.i64 dir,
      AV.sl (1 : Nat) (0 : Nat) (2 : Nat), AV.sl (2 : Nat) (0 : Nat) m1, AV.sl (3 : Nat) (0 : Nat) m2],
  AObj.arr (0 : Nat) (9 : Nat) [K.str] [[AV.str z], [AV.str z2]], AObj.arr (0 : Nat) (3 : Nat) [K.int IntKind.i64] sts,
  AObj.arr (0 : Nat) (3 : Nat) [K.int IntKind.i64] dvs]))))))))))
           (Q (Ex.nrm) ([AV.ptr (0 : Nat) (0 : Nat), AV.row no [K.int IntKind.i64] [[AV.int IntKind.i64 p], [AV.int IntKind.i64 q]],
  AV.row nw [K.str, K.str, K.str, K.int IntKind.i64] rows, AV.int IntKind.i64 (IntKind.i64.wrap (i + (1 : Int)))]) ([AObj.box
    [AV.int IntKind.i64 n, AV.int IntKind.i64 pi, AV.int IntKind.i64 e, AV.int IntKind.i64 g, AV.int IntKind.i64 fi,
      AV.row nl [K.int IntKind.i64] ps, AV.int IntKind.i64 fk, AV.int IntKind.i64 fa, AV.int IntKind.i64 ff,
      AV.int IntKind.i64 ft, AV.row nl3 [K.int IntKind.i64, K.int IntKind.i64, K.str] acts,
      AV.row nl4 [K.int IntKind.i64] ds, AV.int IntKind.i64 ro, AV.int IntKind.i64 sl, AV.int IntKind.i64 dir,
      AV.sl (1 : Nat) (0 : Nat) (2 : Nat), AV.sl (2 : Nat) (0 : Nat) m1, AV.sl (3 : Nat) (0 : Nat) m2],
  AObj.arr (0 : Nat) (9 : Nat) [K.str] [[AV.str z], [AV.str z2]], AObj.arr (0 : Nat) (3 : Nat) [K.int IntKind.i64] sts,
  AObj.arr (0 : Nat) (3 : Nat) [K.int IntKind.i64] dvs])))
          (Q (Ex.nrm) ([AV.ptr (0 : Nat) (0 : Nat), AV.row no [K.int IntKind.i64] [[AV.int IntKind.i64 p], [AV.int IntKind.i64 q]],
  AV.row nw [K.str, K.str, K.str, K.int IntKind.i64] rows, AV.int IntKind.i64 (IntKind.i64.wrap (i + (1 : Int)))]) ([AObj.box
    [AV.int IntKind.i64 n, AV.int IntKind.i64 pi, AV.int IntKind.i64 e, AV.int IntKind.i64 g, AV.int IntKind.i64 fi,
      AV.row nl [K.int IntKind.i64] ps, AV.int IntKind.i64 fk, AV.int IntKind.i64 fa, AV.int IntKind.i64 ff,
      AV.int IntKind.i64 ft, AV.row nl3 [K.int IntKind.i64, K.int IntKind.i64, K.str] acts,
      AV.row nl4 [K.int IntKind.i64] ds, AV.int IntKind.i64 ro, AV.int IntKind.i64 sl, AV.int IntKind.i64 dir,
      AV.sl (1 : Nat) (0 : Nat) (2 : Nat), AV.sl (2 : Nat) (0 : Nat) m1, AV.sl (3 : Nat) (0 : Nat) m2],
  AObj.arr (0 : Nat) (9 : Nat) [K.str] [[AV.str z], [AV.str z2]], AObj.arr (0 : Nat) (3 : Nat) [K.int IntKind.i64] sts,
  AObj.arr (0 : Nat) (3 : Nat) [K.int IntKind.i64] dvs])))))))
         (Q (Ex.nrm) ([AV.ptr (0 : Nat) (0 : Nat), AV.row no [K.int IntKind.i64] [[AV.int IntKind.i64 p], [AV.int IntKind.i64 q]],
  AV.row nw [K.str, K.str, K.str, K.int IntKind.i64] rows, AV.int IntKind.i64 (IntKind.i64.wrap (i + (1 : Int)))]) ([AObj.box
    [AV.int IntKind.i64 n, AV.int IntKind.i64 pi, AV.int IntKind.i64 e, AV.int IntKind.i64 g, AV.int IntKind.i64 fi,
      AV.row nl [K.int IntKind.i64] ps, AV.int IntKind.i64 fk, AV.int IntKind.i64 fa, AV.int IntKind.i64 ff,
      AV.int IntKind.i64 ft, AV.row nl3 [K.int IntKind.i64, K.int IntKind.i64, K.str] acts,
      AV.row nl4 [K.int IntKind.i64] ds, AV.int IntKind.i64 ro, AV.int IntKind.i64 sl, AV.int IntKind.i64 dir,
      AV.sl (1 : Nat) (0 : Nat) (2 : Nat), AV.sl (2 : Nat) (0 : Nat) m1, AV.sl (3 : Nat) (0 : Nat) m2],
  AObj.arr (0 : Nat) (9 : Nat) [K.str] [[AV.str z], [AV.str z2]], AObj.arr (0 : Nat) (3 : Nat) [K.int IntKind.i64] sts,
  AObj.arr (0 : Nat) (3 : Nat) [K.int IntKind.i64] dvs])))))))))))))))
       (chk ((0 : Nat) + m1 ≤ sts.length) (chk ((0 : Nat) + m2 ≤ dvs.length) ((∀ (b128 : Bool),
       ((b128 = s_right fk fa ft ro p) →
       br (b128)
        (chk ((0 : Nat) + m1 ≤ sts.length) (chk ((0 : Nat) + m2 ≤ dvs.length) ((∀ (b133 : Bool),
        ((b133 = s_right fk fa ft ro q) →
        br (b133)
         (br (!z.toList == z2.toList)
          (chk ((0 : Int) ≤ i ∧ i < (↑rows.length : Int)) (((Hyp (((rows.getD i.toNat []).getD (2 : Nat) AV.gone).toS.size ≤ (1000000 : Nat))) ∧
          ((∀ (b139 : Bool),
          (∀ (x'140 : ByteArray),
          ((x'140 = ((rows.getD i.toNat []).getD (2 : Nat) AV.gone).toS) →
          ((b139 = true → s_whole x'140) →
          br (b139)
           (Q (Ex.ret) ([AV.bool false]) ([]))
           (Q (Ex.nrm) ([AV.ptr (0 : Nat) (0 : Nat), AV.row no [K.int IntKind.i64] [[AV.int IntKind.i64 p], [AV.int IntKind.i64 q]],
  AV.row nw [K.str, K.str, K.str, K.int IntKind.i64] rows, AV.int IntKind.i64 (IntKind.i64.wrap (i + (1 : Int)))]) ([AObj.box
    [AV.int IntKind.i64 n, AV.int IntKind.i64 pi, AV.int IntKind.i64 e, AV.int IntKind.i64 g, AV.int IntKind.i64 fi,
      AV.row nl [K.int IntKind.i64] ps, AV.int IntKind.i64 fk, AV.int IntKind.i64 fa, AV.int IntKind.i64 ff,
      AV.int IntKind.i64 ft, AV.row nl3 [K.int IntKind.i64, K.int IntKind.i64, K.str] acts,
      AV.row nl4 [K.int IntKind.i64] ds, AV.int IntKind.i64 ro, AV.int IntKind.i64 sl, AV.int IntKind.i64 dir,
      AV.sl (1 : Nat) (0 : Nat) (2 : Nat), AV.sl (2 : Nat) (0 : Nat) m1, AV.sl (3 : Nat) (0 : Nat) m2],
  AObj.arr (0 : Nat) (9 : Nat) [K.str] [[AV.str z], [AV.str z2]], AObj.arr (0 : Nat) (3 : Nat) [K.int IntKind.i64] sts,
  AObj.arr (0 : Nat) (3 : Nat) [K.int IntKind.i64] dvs]))))))))))
          (Q (Ex.nrm) ([AV.ptr (0 : Nat) (0 : Nat), AV.row no [K.int IntKind.i64] [[AV.int IntKind.i64 p], [AV.int IntKind.i64 q]],
  AV.row nw [K.str, K.str, K.str, K.int IntKind.i64] rows, AV.int IntKind.i64 (IntKind.i64.wrap (i + (1 : Int)))]) ([AObj.box
    [AV.int IntKind.i64 n, AV.int IntKind.i64 pi, AV.int IntKind.i64 e, AV.int IntKind.i64 g, AV.int IntKind.i64 fi,
      AV.row nl [K.int IntKind.i64] ps, AV.int IntKind.i64 fk, AV.int IntKind.i64 fa, AV.int IntKind.i64 ff,
      AV.int IntKind.i64 ft, AV.row nl3 [K.int IntKind.i64, K.int IntKind.i64, K.str] acts,
      AV.row nl4 [K.int IntKind.i64] ds, AV.int IntKind.i64 ro, AV.int IntKind.i64 sl, AV.int IntKind.i64 dir,
      AV.sl (1 : Nat) (0 : Nat) (2 : Nat), AV.sl (2 : Nat) (0 : Nat) m1, AV.sl (3 : Nat) (0 : Nat) m2],
  AObj.arr (0 : Nat) (9 : Nat) [K.str] [[AV.str z], [AV.str z2]], AObj.arr (0 : Nat) (3 : Nat) [K.int IntKind.i64] sts,
  AObj.arr (0 : Nat) (3 : Nat) [K.int IntKind.i64] dvs])))
         (Q (Ex.nrm) ([AV.ptr (0 : Nat) (0 : Nat), AV.row no [K.int IntKind.i64] [[AV.int IntKind.i64 p], [AV.int IntKind.i64 q]],
  AV.row nw [K.str, K.str, K.str, K.int IntKind.i64] rows, AV.int IntKind.i64 (IntKind.i64.wrap (i + (1 : Int)))]) ([AObj.box
    [AV.int IntKind.i64 n, AV.int IntKind.i64 pi, AV.int IntKind.i64 e, AV.int IntKind.i64 g, AV.int IntKind.i64 fi,
      AV.row nl [K.int IntKind.i64] ps, AV.int IntKind.i64 fk, AV.int IntKind.i64 fa, AV.int IntKind.i64 ff,
      AV.int IntKind.i64 ft, AV.row nl3 [K.int IntKind.i64, K.int IntKind.i64, K.str] acts,
      AV.row nl4 [K.int IntKind.i64] ds, AV.int IntKind.i64 ro, AV.int IntKind.i64 sl, AV.int IntKind.i64 dir,
      AV.sl (1 : Nat) (0 : Nat) (2 : Nat), AV.sl (2 : Nat) (0 : Nat) m1, AV.sl (3 : Nat) (0 : Nat) m2],
  AObj.arr (0 : Nat) (9 : Nat) [K.str] [[AV.str z], [AV.str z2]], AObj.arr (0 : Nat) (3 : Nat) [K.int IntKind.i64] sts,
  AObj.arr (0 : Nat) (3 : Nat) [K.int IntKind.i64] dvs])))))))
        (Q (Ex.nrm) ([AV.ptr (0 : Nat) (0 : Nat), AV.row no [K.int IntKind.i64] [[AV.int IntKind.i64 p], [AV.int IntKind.i64 q]],
  AV.row nw [K.str, K.str, K.str, K.int IntKind.i64] rows, AV.int IntKind.i64 (IntKind.i64.wrap (i + (1 : Int)))]) ([AObj.box
    [AV.int IntKind.i64 n, AV.int IntKind.i64 pi, AV.int IntKind.i64 e, AV.int IntKind.i64 g, AV.int IntKind.i64 fi,
      AV.row nl [K.int IntKind.i64] ps, AV.int IntKind.i64 fk, AV.int IntKind.i64 fa, AV.int IntKind.i64 ff,
      AV.int IntKind.i64 ft, AV.row nl3 [K.int IntKind.i64, K.int IntKind.i64, K.str] acts,
      AV.row nl4 [K.int IntKind.i64] ds, AV.int IntKind.i64 ro, AV.int IntKind.i64 sl, AV.int IntKind.i64 dir,
      AV.sl (1 : Nat) (0 : Nat) (2 : Nat), AV.sl (2 : Nat) (0 : Nat) m1, AV.sl (3 : Nat) (0 : Nat) m2],
  AObj.arr (0 : Nat) (9 : Nat) [K.str] [[AV.str z], [AV.str z2]], AObj.arr (0 : Nat) (3 : Nat) [K.int IntKind.i64] sts,
  AObj.arr (0 : Nat) (3 : Nat) [K.int IntKind.i64] dvs]))))))))))))))))))))
     (chk ((0 : Nat) + m1 ≤ sts.length) (chk ((0 : Nat) + m2 ≤ dvs.length) ((∀ (b115 : Bool),
     ((b115 = s_right fk fa ft ro q) →
     br (b115)
      (chk ((0 : Int) ≤ i ∧ i < (↑rows.length : Int)) ((∀ (b119 : Bool),
      (∀ (x'120 : ByteArray),
      (∀ (y'121 : ByteArray),
      ((x'120 = ((rows.getD i.toNat []).getD (2 : Nat) AV.gone).toS) →
      ((y'121 = z2) →
      ((s_front x'120 y'121 → b119 = true) →
      br (!b119)
       (Q (Ex.ret) ([AV.bool false]) ([]))
       (chk ((0 : Nat) + m1 ≤ sts.length) (chk ((0 : Nat) + m2 ≤ dvs.length) ((∀ (b128 : Bool),
       ((b128 = s_right fk fa ft ro p) →
       br (b128)
        (chk ((0 : Nat) + m1 ≤ sts.length) (chk ((0 : Nat) + m2 ≤ dvs.length) ((∀ (b133 : Bool),
        ((b133 = s_right fk fa ft ro q) →
        br (b133)
         (br (!z.toList == z2.toList)
          (chk ((0 : Int) ≤ i ∧ i < (↑rows.length : Int)) (((Hyp (((rows.getD i.toNat []).getD (2 : Nat) AV.gone).toS.size ≤ (1000000 : Nat))) ∧
          ((∀ (b139 : Bool),
          (∀ (x'140 : ByteArray),
          ((x'140 = ((rows.getD i.toNat []).getD (2 : Nat) AV.gone).toS) →
          ((b139 = true → s_whole x'140) →
          br (b139)
           (Q (Ex.ret) ([AV.bool false]) ([]))
           (Q (Ex.nrm) ([AV.ptr (0 : Nat) (0 : Nat), AV.row no [K.int IntKind.i64] [[AV.int IntKind.i64 p], [AV.int IntKind.i64 q]],
  AV.row nw [K.str, K.str, K.str, K.int IntKind.i64] rows, AV.int IntKind.i64 (IntKind.i64.wrap (i + (1 : Int)))]) ([AObj.box
    [AV.int IntKind.i64 n, AV.int IntKind.i64 pi, AV.int IntKind.i64 e, AV.int IntKind.i64 g, AV.int IntKind.i64 fi,
      AV.row nl [K.int IntKind.i64] ps, AV.int IntKind.i64 fk, AV.int IntKind.i64 fa, AV.int IntKind.i64 ff,
      AV.int IntKind.i64 ft, AV.row nl3 [K.int IntKind.i64, K.int IntKind.i64, K.str] acts,
      AV.row nl4 [K.int IntKind.i64] ds, AV.int IntKind.i64 ro, AV.int IntKind.i64 sl, AV.int IntKind.i64 dir,
      AV.sl (1 : Nat) (0 : Nat) (2 : Nat), AV.sl (2 : Nat) (0 : Nat) m1, AV.sl (3 : Nat) (0 : Nat) m2],
  AObj.arr (0 : Nat) (9 : Nat) [K.str] [[AV.str z], [AV.str z2]], AObj.arr (0 : Nat) (3 : Nat) [K.int IntKind.i64] sts,
  AObj.arr (0 : Nat) (3 : Nat) [K.int IntKind.i64] dvs]))))))))))
          (Q (Ex.nrm) ([AV.ptr (0 : Nat) (0 : Nat), AV.row no [K.int IntKind.i64] [[AV.int IntKind.i64 p], [AV.int IntKind.i64 q]],
  AV.row nw [K.str, K.str, K.str, K.int IntKind.i64] rows, AV.int IntKind.i64 (IntKind.i64.wrap (i + (1 : Int)))]) ([AObj.box
    [AV.int IntKind.i64 n, AV.int IntKind.i64 pi, AV.int IntKind.i64 e, AV.int IntKind.i64 g, AV.int IntKind.i64 fi,
      AV.row nl [K.int IntKind.i64] ps, AV.int IntKind.i64 fk, AV.int IntKind.i64 fa, AV.int IntKind.i64 ff,
      AV.int IntKind.i64 ft, AV.row nl3 [K.int IntKind.i64, K.int IntKind.i64, K.str] acts,
      AV.row nl4 [K.int IntKind.i64] ds, AV.int IntKind.i64 ro, AV.int IntKind.i64 sl, AV.int IntKind.i64 dir,
      AV.sl (1 : Nat) (0 : Nat) (2 : Nat), AV.sl (2 : Nat) (0 : Nat) m1, AV.sl (3 : Nat) (0 : Nat) m2],
  AObj.arr (0 : Nat) (9 : Nat) [K.str] [[AV.str z], [AV.str z2]], AObj.arr (0 : Nat) (3 : Nat) [K.int IntKind.i64] sts,
  AObj.arr (0 : Nat) (3 : Nat) [K.int IntKind.i64] dvs])))
         (Q (Ex.nrm) ([AV.ptr (0 : Nat) (0 : Nat), AV.row no [K.int IntKind.i64] [[AV.int IntKind.i64 p], [AV.int IntKind.i64 q]],
  AV.row nw [K.str, K.str, K.str, K.int IntKind.i64] rows, AV.int IntKind.i64 (IntKind.i64.wrap (i + (1 : Int)))]) ([AObj.box
    [AV.int IntKind.i64 n, AV.int IntKind.i64 pi, AV.int IntKind.i64 e, AV.int IntKind.i64 g, AV.int IntKind.i64 fi,
      AV.row nl [K.int IntKind.i64] ps, AV.int IntKind.i64 fk, AV.int IntKind.i64 fa, AV.int IntKind.i64 ff,
      AV.int IntKind.i64 ft, AV.row nl3 [K.int IntKind.i64, K.int IntKind.i64, K.str] acts,
      AV.row nl4 [K.int IntKind.i64] ds, AV.int IntKind.i64 ro, AV.int IntKind.i64 sl, AV.int IntKind.i64 dir,
      AV.sl (1 : Nat) (0 : Nat) (2 : Nat), AV.sl (2 : Nat) (0 : Nat) m1, AV.sl (3 : Nat) (0 : Nat) m2],
  AObj.arr (0 : Nat) (9 : Nat) [K.str] [[AV.str z], [AV.str z2]], AObj.arr (0 : Nat) (3 : Nat) [K.int IntKind.i64] sts,
  AObj.arr (0 : Nat) (3 : Nat) [K.int IntKind.i64] dvs])))))))
        (Q (Ex.nrm) ([AV.ptr (0 : Nat) (0 : Nat), AV.row no [K.int IntKind.i64] [[AV.int IntKind.i64 p], [AV.int IntKind.i64 q]],
  AV.row nw [K.str, K.str, K.str, K.int IntKind.i64] rows, AV.int IntKind.i64 (IntKind.i64.wrap (i + (1 : Int)))]) ([AObj.box
    [AV.int IntKind.i64 n, AV.int IntKind.i64 pi, AV.int IntKind.i64 e, AV.int IntKind.i64 g, AV.int IntKind.i64 fi,
      AV.row nl [K.int IntKind.i64] ps, AV.int IntKind.i64 fk, AV.int IntKind.i64 fa, AV.int IntKind.i64 ff,
      AV.int IntKind.i64 ft, AV.row nl3 [K.int IntKind.i64, K.int IntKind.i64, K.str] acts,
      AV.row nl4 [K.int IntKind.i64] ds, AV.int IntKind.i64 ro, AV.int IntKind.i64 sl, AV.int IntKind.i64 dir,
      AV.sl (1 : Nat) (0 : Nat) (2 : Nat), AV.sl (2 : Nat) (0 : Nat) m1, AV.sl (3 : Nat) (0 : Nat) m2],
  AObj.arr (0 : Nat) (9 : Nat) [K.str] [[AV.str z], [AV.str z2]], AObj.arr (0 : Nat) (3 : Nat) [K.int IntKind.i64] sts,
  AObj.arr (0 : Nat) (3 : Nat) [K.int IntKind.i64] dvs])))))))))))))))
      (chk ((0 : Nat) + m1 ≤ sts.length) (chk ((0 : Nat) + m2 ≤ dvs.length) ((∀ (b120 : Bool),
      ((b120 = s_right fk fa ft ro p) →
      br (b120)
       (chk ((0 : Nat) + m1 ≤ sts.length) (chk ((0 : Nat) + m2 ≤ dvs.length) ((∀ (b125 : Bool),
       ((b125 = s_right fk fa ft ro q) →
       br (b125)
        (br (!z.toList == z2.toList)
         (chk ((0 : Int) ≤ i ∧ i < (↑rows.length : Int)) (((Hyp (((rows.getD i.toNat []).getD (2 : Nat) AV.gone).toS.size ≤ (1000000 : Nat))) ∧
         ((∀ (b131 : Bool),
         (∀ (x'132 : ByteArray),
         ((x'132 = ((rows.getD i.toNat []).getD (2 : Nat) AV.gone).toS) →
         ((b131 = true → s_whole x'132) →
         br (b131)
          (Q (Ex.ret) ([AV.bool false]) ([]))
          (Q (Ex.nrm) ([AV.ptr (0 : Nat) (0 : Nat), AV.row no [K.int IntKind.i64] [[AV.int IntKind.i64 p], [AV.int IntKind.i64 q]],
  AV.row nw [K.str, K.str, K.str, K.int IntKind.i64] rows, AV.int IntKind.i64 (IntKind.i64.wrap (i + (1 : Int)))]) ([AObj.box
    [AV.int IntKind.i64 n, AV.int IntKind.i64 pi, AV.int IntKind.i64 e, AV.int IntKind.i64 g, AV.int IntKind.i64 fi,
      AV.row nl [K.int IntKind.i64] ps, AV.int IntKind.i64 fk, AV.int IntKind.i64 fa, AV.int IntKind.i64 ff,
      AV.int IntKind.i64 ft, AV.row nl3 [K.int IntKind.i64, K.int IntKind.i64, K.str] acts,
      AV.row nl4 [K.int IntKind.i64] ds, AV.int IntKind.i64 ro, AV.int IntKind.i64 sl, AV.int IntKind.i64 dir,
      AV.sl (1 : Nat) (0 : Nat) (2 : Nat), AV.sl (2 : Nat) (0 : Nat) m1, AV.sl (3 : Nat) (0 : Nat) m2],
  AObj.arr (0 : Nat) (9 : Nat) [K.str] [[AV.str z], [AV.str z2]], AObj.arr (0 : Nat) (3 : Nat) [K.int IntKind.i64] sts,
  AObj.arr (0 : Nat) (3 : Nat) [K.int IntKind.i64] dvs]))))))))))
         (Q (Ex.nrm) ([AV.ptr (0 : Nat) (0 : Nat), AV.row no [K.int IntKind.i64] [[AV.int IntKind.i64 p], [AV.int IntKind.i64 q]],
  AV.row nw [K.str, K.str, K.str, K.int IntKind.i64] rows, AV.int IntKind.i64 (IntKind.i64.wrap (i + (1 : Int)))]) ([AObj.box
    [AV.int IntKind.i64 n, AV.int IntKind.i64 pi, AV.int IntKind.i64 e, AV.int IntKind.i64 g, AV.int IntKind.i64 fi,
      AV.row nl [K.int IntKind.i64] ps, AV.int IntKind.i64 fk, AV.int IntKind.i64 fa, AV.int IntKind.i64 ff,
      AV.int IntKind.i64 ft, AV.row nl3 [K.int IntKind.i64, K.int IntKind.i64, K.str] acts,
      AV.row nl4 [K.int IntKind.i64] ds, AV.int IntKind.i64 ro, AV.int IntKind.i64 sl, AV.int IntKind.i64 dir,
      AV.sl (1 : Nat) (0 : Nat) (2 : Nat), AV.sl (2 : Nat) (0 : Nat) m1, AV.sl (3 : Nat) (0 : Nat) m2],
  AObj.arr (0 : Nat) (9 : Nat) [K.str] [[AV.str z], [AV.str z2]], AObj.arr (0 : Nat) (3 : Nat) [K.int IntKind.i64] sts,
  AObj.arr (0 : Nat) (3 : Nat) [K.int IntKind.i64] dvs])))
        (Q (Ex.nrm) ([AV.ptr (0 : Nat) (0 : Nat), AV.row no [K.int IntKind.i64] [[AV.int IntKind.i64 p], [AV.int IntKind.i64 q]],
  AV.row nw [K.str, K.str, K.str, K.int IntKind.i64] rows, AV.int IntKind.i64 (IntKind.i64.wrap (i + (1 : Int)))]) ([AObj.box
    [AV.int IntKind.i64 n, AV.int IntKind.i64 pi, AV.int IntKind.i64 e, AV.int IntKind.i64 g, AV.int IntKind.i64 fi,
      AV.row nl [K.int IntKind.i64] ps, AV.int IntKind.i64 fk, AV.int IntKind.i64 fa, AV.int IntKind.i64 ff,
      AV.int IntKind.i64 ft, AV.row nl3 [K.int IntKind.i64, K.int IntKind.i64, K.str] acts,
      AV.row nl4 [K.int IntKind.i64] ds, AV.int IntKind.i64 ro, AV.int IntKind.i64 sl, AV.int IntKind.i64 dir,
      AV.sl (1 : Nat) (0 : Nat) (2 : Nat), AV.sl (2 : Nat) (0 : Nat) m1, AV.sl (3 : Nat) (0 : Nat) m2],
  AObj.arr (0 : Nat) (9 : Nat) [K.str] [[AV.str z], [AV.str z2]], AObj.arr (0 : Nat) (3 : Nat) [K.int IntKind.i64] sts,
  AObj.arr (0 : Nat) (3 : Nat) [K.int IntKind.i64] dvs])))))))
       (Q (Ex.nrm) ([AV.ptr (0 : Nat) (0 : Nat), AV.row no [K.int IntKind.i64] [[AV.int IntKind.i64 p], [AV.int IntKind.i64 q]],
  AV.row nw [K.str, K.str, K.str, K.int IntKind.i64] rows, AV.int IntKind.i64 (IntKind.i64.wrap (i + (1 : Int)))]) ([AObj.box
    [AV.int IntKind.i64 n, AV.int IntKind.i64 pi, AV.int IntKind.i64 e, AV.int IntKind.i64 g, AV.int IntKind.i64 fi,
      AV.row nl [K.int IntKind.i64] ps, AV.int IntKind.i64 fk, AV.int IntKind.i64 fa, AV.int IntKind.i64 ff,
      AV.int IntKind.i64 ft, AV.row nl3 [K.int IntKind.i64, K.int IntKind.i64, K.str] acts,
      AV.row nl4 [K.int IntKind.i64] ds, AV.int IntKind.i64 ro, AV.int IntKind.i64 sl, AV.int IntKind.i64 dir,
      AV.sl (1 : Nat) (0 : Nat) (2 : Nat), AV.sl (2 : Nat) (0 : Nat) m1, AV.sl (3 : Nat) (0 : Nat) m2],
  AObj.arr (0 : Nat) (9 : Nat) [K.str] [[AV.str z], [AV.str z2]], AObj.arr (0 : Nat) (3 : Nat) [K.int IntKind.i64] sts,
  AObj.arr (0 : Nat) (3 : Nat) [K.int IntKind.i64] dvs]))))))))))))))))))))))))
 (Q (Ex.exit (0 : Nat)) ([]) ([]))) := by kernel_rfl
theorem nfPr (n pi e g fi : Int) (nl : Bool) (ps : List (List AV)) (fk fa ff ft : Int) (nl1 nl2 : Bool) (acts ds : List (List AV)) (round a : Int) (up : Bool) (k r sl pk pv : Int) (nl3 : Bool) (ec : List (List AV)) (nl4 : Bool) (ns : List (List AV)) (Q : AV × List AObj → Prop) : inlW Tryz.prog H0 P2L 6 (InO Tryz.prog H0 P2L 6 6) 5 [cf n pi e g fi nl ps, .agg [.int .i64 fk, .int .i64 fa, .int .i64 ff, .int .i64 ft, .row nl1 [.int .i64, .int .i64, .str] acts, .row nl2 [.int .i64] ds], .int .i64 round, .int .i64 a, .bool up, .agg [.int .i64 k, .int .i64 r, .int .i64 sl, .int .i64 pk, .int .i64 pv, .row nl3 [.int .i64, .int .i64] ec], .row nl4 [.int .i64] ns] [] Q = (
((Hyp (acts.length ≤ (9223372036854775807 : Nat))) ∧
((∀ (b101 : Bool),
((b101 = true →
  acts.length ≤ (50 : Nat) ∧ ds.length ≤ (50 : Nat) ∧ ∀ (r : List AV), r ∈ acts → (actText r).size ≤ (1200 : Nat)) →
br (!b101)
 (Q ((AV.bool true, [])))
 ((∀ (n104 : Int),
 (∀ (pi105 : Int),
 (∀ (e106 : Int),
 (∀ (g107 : Int),
 (∀ (fi108 : Int),
 (∀ (nl109 : Bool),
 (∀ (qs110 : List Int),
 (∀ (k'111 : Int),
 (∀ (a'112 : Int),
 (∀ (f'113 : Int),
 (∀ (t'114 : Int),
 (∀ (nl1'115 : Bool),
 (∀ (nl2'116 : Bool),
 (∀ (acts'117 : List (List AV)),
 (∀ (ds'118 : List Int),
 (∀ (ro119 : Int),
 (∀ (sl'120 : Int),
 (∀ (dir121 : Int),
 (∀ (m122 : Nat),
 (∀ (dv123 : List Int),
 ((s_made n104 pi105 e106 g107 fi108 qs110 ∧
  s_fok n104 k'111 a'112 f'113 t'114 acts'117 ds'118 ∧
    (0 : Int) ≤ ro119 ∧
      ro119 ≤ (130 : Int) ∧
        (0 : Int) ≤ sl'120 ∧
          sl'120 < n104 + (↑qs110.length : Int) ∧
            (dir121 = if up = true then (1 : Int) else (-1 : Int)) ∧ (↑m122 : Int) = n104 ∧ s_devs pi105 m122 dv123) →
 ((qs110 = s_prs n104 [[AV.int IntKind.i64 (IntKind.i64.wrap ((1 : Int) + s_rem a (6 : Int)))]]) →
 ((((Hyp ((6 : Int) ≤ n104 ∧
  n104 ≤ (12 : Int) ∧
    n104 = n104 ∧
      (0 : Nat) < (List.map (fun n => [AV.int IntKind.i64 n]) qs110).length ∧
        (List.map (fun n => [AV.int IntKind.i64 n]) qs110).length ≤ (3 : Nat) ∧
          (0 : Int) ≤ s_pair (List.map (fun n => [AV.int IntKind.i64 n]) qs110) (0 : Int) ∧
            s_pair (List.map (fun n => [AV.int IntKind.i64 n]) qs110) (0 : Int) < n104)) ∧
 ((∀ (p128 : Int),
 ((p128 = s_pair (List.map (fun n => [AV.int IntKind.i64 n]) qs110) (0 : Int)) →
 ((Hyp ((6 : Int) ≤ n104 ∧ n104 ≤ (12 : Int) ∧ (List.map (fun n => [AV.int IntKind.i64 n]) qs110).length ≤ (3 : Nat))) ∧
 ((∀ (k'131 : Int),
 (∀ (r'132 : Int),
 (∀ (sl'133 : Int),
 (∀ (pk'134 : Int),
 (∀ (pv'135 : Int),
 (∀ (nl'136 : Bool),
 (∀ (rows137 : List (List AV)),
 ((rows137.length ≤ (15 : Nat)) →
 br (decide ((↑ns.length : Int) > (2 : Int)))
  (chk ((0 : Int) ≤ (2 : Int) ∧ (2 : Int) < (↑ns.length : Int)) (br (s_rem ((ns.getD (2 : Nat) []).getD (0 : Nat) AV.gone).toI (2 : Int) == (0 : Int))
   (chk ((0 : Int) ≤ (2 : Int) ∧ (2 : Int) < (↑ns.length : Int)) ((∀ (k143 : Int),
   (∀ (v144 : Int),
   ((Hyp (rows137.length ≤ (30 : Nat))) ∧
   ((∀ (z146 : ByteArray),
   ((s_clean z146 = z146 ∧ (0 : Nat) < z146.size ∧ z146.size ≤ (1000 : Nat)) →
   ((Hyp (rows137.length ≤ (30 : Nat))) ∧
   ((∀ (z149 : ByteArray),
   ((s_clean z149 = z149 ∧ (0 : Nat) < z149.size ∧ z149.size ≤ (1000 : Nat)) →
   chk ((0 : Nat) + m122 ≤ (s_rep m122 (4 : Int)).length) (chk ((0 : Nat) + m122 ≤ (List.map (fun n => [AV.int IntKind.i64 n]) dv123).length) (((Hyp (s_confOk n104 pi105 e106 g107 fi108
      (List.map (fun r => (r.getD (0 : Nat) AV.gone).toI) (List.map (fun n => [AV.int IntKind.i64 n]) qs110)) =
    true ∧
  s_actsB acts'117 ∧
    (0 : Int) ≤ ro119 ∧
      ro119 ≤ (1000000 : Int) ∧
        (0 : Int) ≤ n104 ∧
          n104 ≤ (1000000 : Int) ∧
            (dir121 = (1 : Int) ∨ dir121 = (-1 : Int)) ∧
              (↑(List.take m122 (List.drop (0 : Nat) (s_rep m122 (4 : Int)))).length : Int) = n104 ∧
                (↑(List.take m122 (List.drop (0 : Nat) (List.map (fun n => [AV.int IntKind.i64 n]) dv123))).length :
                      Int) =
                    n104 ∧
                  n104 ≤ n104 ∧
                    n104 < n104 + (↑(List.map (fun n => [AV.int IntKind.i64 n]) qs110).length : Int) ∧
                      (0 : Int) ≤ s_pair (List.map (fun n => [AV.int IntKind.i64 n]) qs110) (n104 - n104) ∧
                        s_pair (List.map (fun n => [AV.int IntKind.i64 n]) qs110) (n104 - n104) < n104 ∧
                          z146.size ≤ (1000000 : Nat) ∧ z149.size ≤ (1000000 : Nat))) ∧
   ((∀ (em154 : Int → Int → ByteArray → ByteArray),
   ((∀ (fm dst : Int) (base : ByteArray),
  (0 : Int) ≤ dst →
    dst ≤ (1000000 : Int) →
      base.size ≤ (1000000 : Nat) → s_emitR (s_hit n104 k'111 a'112 fm dst) f'113 t'114 ro119 base (em154 fm dst base)) →
   (∀ (rows156 : List (List AV)),
   ((rows156 =
  s_gIterS
    { n := n104, dir := dir121, sl := n104, pi := pi105,
      way :=
        s_wayL n104 (s_last n104 (s_pair (List.map (fun n => [AV.int IntKind.i64 n]) qs110) (n104 - n104)) dir121)
          dir121 (n104 - (2 : Int)).toNat,
      sts := List.take m122 (List.drop (0 : Nat) (s_rep m122 (4 : Int))),
      dvs := List.take m122 (List.drop (0 : Nat) (List.map (fun n => [AV.int IntKind.i64 n]) dv123)), em := em154 }
    (s_gI3 n104 (s_pair (List.map (fun n => [AV.int IntKind.i64 n]) qs110) (n104 - n104)) z146 z149)
    (s_gI4 n104 (s_pair (List.map (fun n => [AV.int IntKind.i64 n]) qs110) (n104 - n104))) (0 : Nat)
    (n104 - (2 : Int)).toNat) →
   br ((↑rows156.length : Int) != n104)
    (Q ((AV.bool false, [])))
    (((Hyp ((0 : Int) < n104 ∧
  n104 ≤ (1000000 : Int) ∧
    (-1000000 : Int) ≤ p128 ∧ p128 ≤ (1000000 : Int) ∧ (-1000000 : Int) ≤ (-1 : Int) ∧ (-1 : Int) ≤ (1000000 : Int))) ∧
    (br (a'112 == s_rem (p128 + (-1 : Int)) n104)
     (br (!z146.toList == z149.toList)
      (br (k'111 == (2 : Int))
       (Q ((AV.bool true, [])))
       (br (k'111 == (1 : Int))
        (Q ((AV.bool true, [])))
        (((Hyp ((0 : Int) ≤ (0 : Int) ∧
  (0 : Int) ≤ (↑rows156.length : Int) ∧
    rows156.length ≤ (12 : Nat) ∧
      m122 = (s_rep m122 (4 : Int)).length ∧
        m122 = (List.map (fun n => [AV.int IntKind.i64 n]) dv123).length ∧
          s_prOk k'111 a'112 t'114 ro119 p128 (s_rem (p128 + (1 : Int)) n104) z146 z149 rows156)) ∧
        (Q ((AV.bool true, [])))))))
      (((Hyp ((0 : Int) ≤ (0 : Int) ∧
  (0 : Int) ≤ (↑rows156.length : Int) ∧
    rows156.length ≤ (12 : Nat) ∧
      m122 = (s_rep m122 (4 : Int)).length ∧
        m122 = (List.map (fun n => [AV.int IntKind.i64 n]) dv123).length ∧
          s_prOk k'111 a'112 t'114 ro119 p128 (s_rem (p128 + (1 : Int)) n104) z146 z149 rows156)) ∧
      (Q ((AV.bool true, []))))))
     (((Hyp ((0 : Int) < n104 ∧
  n104 ≤ (1000000 : Int) ∧
    (-1000000 : Int) ≤ s_rem (p128 + (1 : Int)) n104 ∧
      s_rem (p128 + (1 : Int)) n104 ≤ (1000000 : Int) ∧ (-1000000 : Int) ≤ (1 : Int) ∧ (1 : Int) ≤ (1000000 : Int))) ∧
     (br (!z146.toList == z149.toList)
      (br (k'111 == (2 : Int))
       (Q ((AV.bool true, [])))
       (br (k'111 == (1 : Int))
        (br (a'112 == s_rem (s_rem (p128 + (1 : Int)) n104 + (1 : Int)) n104)
         (Q ((AV.bool true, [])))
         (((Hyp ((0 : Int) ≤ (0 : Int) ∧
  (0 : Int) ≤ (↑rows156.length : Int) ∧
    rows156.length ≤ (12 : Nat) ∧
      m122 = (s_rep m122 (4 : Int)).length ∧
        m122 = (List.map (fun n => [AV.int IntKind.i64 n]) dv123).length ∧
          s_prOk k'111 a'112 t'114 ro119 p128 (s_rem (p128 + (1 : Int)) n104) z146 z149 rows156)) ∧
         (Q ((AV.bool true, []))))))
        (((Hyp ((0 : Int) ≤ (0 : Int) ∧
  (0 : Int) ≤ (↑rows156.length : Int) ∧
    rows156.length ≤ (12 : Nat) ∧
      m122 = (s_rep m122 (4 : Int)).length ∧
        m122 = (List.map (fun n => [AV.int IntKind.i64 n]) dv123).length ∧
          s_prOk k'111 a'112 t'114 ro119 p128 (s_rem (p128 + (1 : Int)) n104) z146 z149 rows156)) ∧
        (Q ((AV.bool true, [])))))))
      (((Hyp ((0 : Int) ≤ (0 : Int) ∧
  (0 : Int) ≤ (↑rows156.length : Int) ∧
    rows156.length ≤ (12 : Nat) ∧
      m122 = (s_rep m122 (4 : Int)).length ∧
        m122 = (List.map (fun n => [AV.int IntKind.i64 n]) dv123).length ∧
          s_prOk k'111 a'112 t'114 ro119 p128 (s_rem (p128 + (1 : Int)) n104) z146 z149 rows156)) ∧
      (Q ((AV.bool true, [])))))))))))))))))))))))))))))))
   (((Hyp (rows137.length ≤ (30 : Nat))) ∧
   ((∀ (z143 : ByteArray),
   ((s_clean z143 = z143 ∧ (0 : Nat) < z143.size ∧ z143.size ≤ (1000 : Nat)) →
   ((Hyp (rows137.length ≤ (30 : Nat))) ∧
   ((∀ (z146 : ByteArray),
   ((s_clean z146 = z146 ∧ (0 : Nat) < z146.size ∧ z146.size ≤ (1000 : Nat)) →
   chk ((0 : Nat) + m122 ≤ (s_rep m122 (4 : Int)).length) (chk ((0 : Nat) + m122 ≤ (List.map (fun n => [AV.int IntKind.i64 n]) dv123).length) (((Hyp (s_confOk n104 pi105 e106 g107 fi108
      (List.map (fun r => (r.getD (0 : Nat) AV.gone).toI) (List.map (fun n => [AV.int IntKind.i64 n]) qs110)) =
    true ∧
  s_actsB acts'117 ∧
    (0 : Int) ≤ ro119 ∧
      ro119 ≤ (1000000 : Int) ∧
        (0 : Int) ≤ n104 ∧
          n104 ≤ (1000000 : Int) ∧
            (dir121 = (1 : Int) ∨ dir121 = (-1 : Int)) ∧
              (↑(List.take m122 (List.drop (0 : Nat) (s_rep m122 (4 : Int)))).length : Int) = n104 ∧
                (↑(List.take m122 (List.drop (0 : Nat) (List.map (fun n => [AV.int IntKind.i64 n]) dv123))).length :
                      Int) =
                    n104 ∧
                  n104 ≤ n104 ∧
                    n104 < n104 + (↑(List.map (fun n => [AV.int IntKind.i64 n]) qs110).length : Int) ∧
                      (0 : Int) ≤ s_pair (List.map (fun n => [AV.int IntKind.i64 n]) qs110) (n104 - n104) ∧
                        s_pair (List.map (fun n => [AV.int IntKind.i64 n]) qs110) (n104 - n104) < n104 ∧
                          z143.size ≤ (1000000 : Nat) ∧ z146.size ≤ (1000000 : Nat))) ∧
   ((∀ (em151 : Int → Int → ByteArray → ByteArray),
   ((∀ (fm dst : Int) (base : ByteArray),
  (0 : Int) ≤ dst →
    dst ≤ (1000000 : Int) →
      base.size ≤ (1000000 : Nat) → s_emitR (s_hit n104 k'111 a'112 fm dst) f'113 t'114 ro119 base (em151 fm dst base)) →
   (∀ (rows153 : List (List AV)),
   ((rows153 =
  s_gIterS
    { n := n104, dir := dir121, sl := n104, pi := pi105,
      way :=
        s_wayL n104 (s_last n104 (s_pair (List.map (fun n => [AV.int IntKind.i64 n]) qs110) (n104 - n104)) dir121)
          dir121 (n104 - (2 : Int)).toNat,
      sts := List.take m122 (List.drop (0 : Nat) (s_rep m122 (4 : Int))),
      dvs := List.take m122 (List.drop (0 : Nat) (List.map (fun n => [AV.int IntKind.i64 n]) dv123)), em := em151 }
    (s_gI3 n104 (s_pair (List.map (fun n => [AV.int IntKind.i64 n]) qs110) (n104 - n104)) z143 z146)
    (s_gI4 n104 (s_pair (List.map (fun n => [AV.int IntKind.i64 n]) qs110) (n104 - n104))) (0 : Nat)
    (n104 - (2 : Int)).toNat) →
   br ((↑rows153.length : Int) != n104)
    (Q ((AV.bool false, [])))
    (((Hyp ((0 : Int) < n104 ∧
  n104 ≤ (1000000 : Int) ∧
    (-1000000 : Int) ≤ p128 ∧ p128 ≤ (1000000 : Int) ∧ (-1000000 : Int) ≤ (-1 : Int) ∧ (-1 : Int) ≤ (1000000 : Int))) ∧
    (br (a'112 == s_rem (p128 + (-1 : Int)) n104)
     (br (!z143.toList == z146.toList)
      (br (k'111 == (2 : Int))
       (Q ((AV.bool true, [])))
       (br (k'111 == (1 : Int))
        (Q ((AV.bool true, [])))
        (((Hyp ((0 : Int) ≤ (0 : Int) ∧
  (0 : Int) ≤ (↑rows153.length : Int) ∧
    rows153.length ≤ (12 : Nat) ∧
      m122 = (s_rep m122 (4 : Int)).length ∧
        m122 = (List.map (fun n => [AV.int IntKind.i64 n]) dv123).length ∧
          s_prOk k'111 a'112 t'114 ro119 p128 (s_rem (p128 + (1 : Int)) n104) z143 z146 rows153)) ∧
        (Q ((AV.bool true, [])))))))
      (((Hyp ((0 : Int) ≤ (0 : Int) ∧
  (0 : Int) ≤ (↑rows153.length : Int) ∧
    rows153.length ≤ (12 : Nat) ∧
      m122 = (s_rep m122 (4 : Int)).length ∧
        m122 = (List.map (fun n => [AV.int IntKind.i64 n]) dv123).length ∧
          s_prOk k'111 a'112 t'114 ro119 p128 (s_rem (p128 + (1 : Int)) n104) z143 z146 rows153)) ∧
      (Q ((AV.bool true, []))))))
     (((Hyp ((0 : Int) < n104 ∧
  n104 ≤ (1000000 : Int) ∧
    (-1000000 : Int) ≤ s_rem (p128 + (1 : Int)) n104 ∧
      s_rem (p128 + (1 : Int)) n104 ≤ (1000000 : Int) ∧ (-1000000 : Int) ≤ (1 : Int) ∧ (1 : Int) ≤ (1000000 : Int))) ∧
     (br (!z143.toList == z146.toList)
      (br (k'111 == (2 : Int))
       (Q ((AV.bool true, [])))
       (br (k'111 == (1 : Int))
        (br (a'112 == s_rem (s_rem (p128 + (1 : Int)) n104 + (1 : Int)) n104)
         (Q ((AV.bool true, [])))
         (((Hyp ((0 : Int) ≤ (0 : Int) ∧
  (0 : Int) ≤ (↑rows153.length : Int) ∧
    rows153.length ≤ (12 : Nat) ∧
      m122 = (s_rep m122 (4 : Int)).length ∧
        m122 = (List.map (fun n => [AV.int IntKind.i64 n]) dv123).length ∧
          s_prOk k'111 a'112 t'114 ro119 p128 (s_rem (p128 + (1 : Int)) n104) z143 z146 rows153)) ∧
         (Q ((AV.bool true, []))))))
        (((Hyp ((0 : Int) ≤ (0 : Int) ∧
  (0 : Int) ≤ (↑rows153.length : Int) ∧
    rows153.length ≤ (12 : Nat) ∧
      m122 = (s_rep m122 (4 : Int)).length ∧
        m122 = (List.map (fun n => [AV.int IntKind.i64 n]) dv123).length ∧
          s_prOk k'111 a'112 t'114 ro119 p128 (s_rem (p128 + (1 : Int)) n104) z143 z146 rows153)) ∧
        (Q ((AV.bool true, [])))))))
      (((Hyp ((0 : Int) ≤ (0 : Int) ∧
  (0 : Int) ≤ (↑rows153.length : Int) ∧
    rows153.length ≤ (12 : Nat) ∧
      m122 = (s_rep m122 (4 : Int)).length ∧
        m122 = (List.map (fun n => [AV.int IntKind.i64 n]) dv123).length ∧
          s_prOk k'111 a'112 t'114 ro119 p128 (s_rem (p128 + (1 : Int)) n104) z143 z146 rows153)) ∧
      (Q ((AV.bool true, []))))))))))))))))))))))))))))))
  (((Hyp (rows137.length ≤ (30 : Nat))) ∧
  ((∀ (z141 : ByteArray),
  ((s_clean z141 = z141 ∧ (0 : Nat) < z141.size ∧ z141.size ≤ (1000 : Nat)) →
  ((Hyp (rows137.length ≤ (30 : Nat))) ∧
  ((∀ (z144 : ByteArray),
  ((s_clean z144 = z144 ∧ (0 : Nat) < z144.size ∧ z144.size ≤ (1000 : Nat)) →
  chk ((0 : Nat) + m122 ≤ (s_rep m122 (4 : Int)).length) (chk ((0 : Nat) + m122 ≤ (List.map (fun n => [AV.int IntKind.i64 n]) dv123).length) (((Hyp (s_confOk n104 pi105 e106 g107 fi108
      (List.map (fun r => (r.getD (0 : Nat) AV.gone).toI) (List.map (fun n => [AV.int IntKind.i64 n]) qs110)) =
    true ∧
  s_actsB acts'117 ∧
    (0 : Int) ≤ ro119 ∧
      ro119 ≤ (1000000 : Int) ∧
        (0 : Int) ≤ n104 ∧
          n104 ≤ (1000000 : Int) ∧
            (dir121 = (1 : Int) ∨ dir121 = (-1 : Int)) ∧
              (↑(List.take m122 (List.drop (0 : Nat) (s_rep m122 (4 : Int)))).length : Int) = n104 ∧
                (↑(List.take m122 (List.drop (0 : Nat) (List.map (fun n => [AV.int IntKind.i64 n]) dv123))).length :
                      Int) =
                    n104 ∧
                  n104 ≤ n104 ∧
                    n104 < n104 + (↑(List.map (fun n => [AV.int IntKind.i64 n]) qs110).length : Int) ∧
                      (0 : Int) ≤ s_pair (List.map (fun n => [AV.int IntKind.i64 n]) qs110) (n104 - n104) ∧
                        s_pair (List.map (fun n => [AV.int IntKind.i64 n]) qs110) (n104 - n104) < n104 ∧
                          z141.size ≤ (1000000 : Nat) ∧ z144.size ≤ (1000000 : Nat))) ∧
  ((∀ (em149 : Int → Int → ByteArray → ByteArray),
  ((∀ (fm dst : Int) (base : ByteArray),
  (0 : Int) ≤ dst →
    dst ≤ (1000000 : Int) →
      base.size ≤ (1000000 : Nat) → s_emitR (s_hit n104 k'111 a'112 fm dst) f'113 t'114 ro119 base (em149 fm dst base)) →
  (∀ (rows151 : List (List AV)),
  ((rows151 =
  s_gIterS
    { n := n104, dir := dir121, sl := n104, pi := pi105,
      way :=
        s_wayL n104 (s_last n104 (s_pair (List.map (fun n => [AV.int IntKind.i64 n]) qs110) (n104 - n104)) dir121)
          dir121 (n104 - (2 : Int)).toNat,
      sts := List.take m122 (List.drop (0 : Nat) (s_rep m122 (4 : Int))),
      dvs := List.take m122 (List.drop (0 : Nat) (List.map (fun n => [AV.int IntKind.i64 n]) dv123)), em := em149 }
    (s_gI3 n104 (s_pair (List.map (fun n => [AV.int IntKind.i64 n]) qs110) (n104 - n104)) z141 z144)
    (s_gI4 n104 (s_pair (List.map (fun n => [AV.int IntKind.i64 n]) qs110) (n104 - n104))) (0 : Nat)
    (n104 - (2 : Int)).toNat) →
  br ((↑rows151.length : Int) != n104)
   (Q ((AV.bool false, [])))
   (((Hyp ((0 : Int) < n104 ∧
  n104 ≤ (1000000 : Int) ∧
    (-1000000 : Int) ≤ p128 ∧ p128 ≤ (1000000 : Int) ∧ (-1000000 : Int) ≤ (-1 : Int) ∧ (-1 : Int) ≤ (1000000 : Int))) ∧
   (br (a'112 == s_rem (p128 + (-1 : Int)) n104)
    (br (!z141.toList == z144.toList)
     (br (k'111 == (2 : Int))
      (Q ((AV.bool true, [])))
      (br (k'111 == (1 : Int))
       (Q ((AV.bool true, [])))
       (((Hyp ((0 : Int) ≤ (0 : Int) ∧
  (0 : Int) ≤ (↑rows151.length : Int) ∧
    rows151.length ≤ (12 : Nat) ∧
      m122 = (s_rep m122 (4 : Int)).length ∧
        m122 = (List.map (fun n => [AV.int IntKind.i64 n]) dv123).length ∧
          s_prOk k'111 a'112 t'114 ro119 p128 (s_rem (p128 + (1 : Int)) n104) z141 z144 rows151)) ∧
       (Q ((AV.bool true, [])))))))
     (((Hyp ((0 : Int) ≤ (0 : Int) ∧
  (0 : Int) ≤ (↑rows151.length : Int) ∧
    rows151.length ≤ (12 : Nat) ∧
      m122 = (s_rep m122 (4 : Int)).length ∧
        m122 = (List.map (fun n => [AV.int IntKind.i64 n]) dv123).length ∧
          s_prOk k'111 a'112 t'114 ro119 p128 (s_rem (p128 + (1 : Int)) n104) z141 z144 rows151)) ∧
     (Q ((AV.bool true, []))))))
    (((Hyp ((0 : Int) < n104 ∧
  n104 ≤ (1000000 : Int) ∧
    (-1000000 : Int) ≤ s_rem (p128 + (1 : Int)) n104 ∧
      s_rem (p128 + (1 : Int)) n104 ≤ (1000000 : Int) ∧ (-1000000 : Int) ≤ (1 : Int) ∧ (1 : Int) ≤ (1000000 : Int))) ∧
    (br (!z141.toList == z144.toList)
     (br (k'111 == (2 : Int))
      (Q ((AV.bool true, [])))
      (br (k'111 == (1 : Int))
       (br (a'112 == s_rem (s_rem (p128 + (1 : Int)) n104 + (1 : Int)) n104)
        (Q ((AV.bool true, [])))
        (((Hyp ((0 : Int) ≤ (0 : Int) ∧
  (0 : Int) ≤ (↑rows151.length : Int) ∧
    rows151.length ≤ (12 : Nat) ∧
      m122 = (s_rep m122 (4 : Int)).length ∧
        m122 = (List.map (fun n => [AV.int IntKind.i64 n]) dv123).length ∧
          s_prOk k'111 a'112 t'114 ro119 p128 (s_rem (p128 + (1 : Int)) n104) z141 z144 rows151)) ∧
        (Q ((AV.bool true, []))))))
       (((Hyp ((0 : Int) ≤ (0 : Int) ∧
  (0 : Int) ≤ (↑rows151.length : Int) ∧
    rows151.length ≤ (12 : Nat) ∧
      m122 = (s_rep m122 (4 : Int)).length ∧
        m122 = (List.map (fun n => [AV.int IntKind.i64 n]) dv123).length ∧
          s_prOk k'111 a'112 t'114 ro119 p128 (s_rem (p128 + (1 : Int)) n104) z141 z144 rows151)) ∧
       (Q ((AV.bool true, [])))))))
     (((Hyp ((0 : Int) ≤ (0 : Int) ∧
  (0 : Int) ≤ (↑rows151.length : Int) ∧
    rows151.length ≤ (12 : Nat) ∧
      m122 = (s_rep m122 (4 : Int)).length ∧
        m122 = (List.map (fun n => [AV.int IntKind.i64 n]) dv123).length ∧
          s_prOk k'111 a'112 t'114 ro119 p128 (s_rem (p128 + (1 : Int)) n104) z141 z144 rows151)) ∧
     (Q ((AV.bool true, []))))))))))))))))))))))))))))))))))))))))))) ∧
 ((∀ (rows127 : List (List AV)),
 ((rows127.length ≤ (2 : Nat)) →
 ((s_strs rows127) →
 ((Hyp ((6 : Int) ≤ n104 ∧
  n104 ≤ (12 : Int) ∧
    n104 = n104 ∧
      (0 : Nat) < (List.map (fun n => [AV.int IntKind.i64 n]) qs110).length ∧
        (List.map (fun n => [AV.int IntKind.i64 n]) qs110).length ≤ (3 : Nat) ∧
          (0 : Int) ≤ s_pair (List.map (fun n => [AV.int IntKind.i64 n]) qs110) (0 : Int) ∧
            s_pair (List.map (fun n => [AV.int IntKind.i64 n]) qs110) (0 : Int) < n104)) ∧
 ((∀ (p131 : Int),
 ((p131 = s_pair (List.map (fun n => [AV.int IntKind.i64 n]) qs110) (0 : Int)) →
 ((Hyp ((6 : Int) ≤ n104 ∧ n104 ≤ (12 : Int) ∧ (List.map (fun n => [AV.int IntKind.i64 n]) qs110).length ≤ (3 : Nat))) ∧
 ((∀ (k'134 : Int),
 (∀ (r'135 : Int),
 (∀ (sl'136 : Int),
 (∀ (pk'137 : Int),
 (∀ (pv'138 : Int),
 (∀ (nl'139 : Bool),
 (∀ (rows140 : List (List AV)),
 ((rows140.length ≤ (15 : Nat)) →
 br (decide ((↑ns.length : Int) > (2 : Int)))
  (chk ((0 : Int) ≤ (2 : Int) ∧ (2 : Int) < (↑ns.length : Int)) (br (s_rem ((ns.getD (2 : Nat) []).getD (0 : Nat) AV.gone).toI (2 : Int) == (0 : Int))
   (chk ((0 : Int) ≤ (2 : Int) ∧ (2 : Int) < (↑ns.length : Int)) ((∀ (k146 : Int),
   (∀ (v147 : Int),
   ((Hyp (rows140.length ≤ (30 : Nat))) ∧
   ((∀ (z149 : ByteArray),
   ((s_clean z149 = z149 ∧ (0 : Nat) < z149.size ∧ z149.size ≤ (1000 : Nat)) →
   ((Hyp (rows140.length ≤ (30 : Nat))) ∧
   ((∀ (z152 : ByteArray),
   ((s_clean z152 = z152 ∧ (0 : Nat) < z152.size ∧ z152.size ≤ (1000 : Nat)) →
   chk ((0 : Nat) + m122 ≤ (s_rep m122 (4 : Int)).length) (chk ((0 : Nat) + m122 ≤ (List.map (fun n => [AV.int IntKind.i64 n]) dv123).length) (((Hyp (s_confOk n104 pi105 e106 g107 fi108
      (List.map (fun r => (r.getD (0 : Nat) AV.gone).toI) (List.map (fun n => [AV.int IntKind.i64 n]) qs110)) =
    true ∧
  s_actsB acts'117 ∧
    (0 : Int) ≤ ro119 ∧
      ro119 ≤ (1000000 : Int) ∧
        (0 : Int) ≤ n104 ∧
          n104 ≤ (1000000 : Int) ∧
            (dir121 = (1 : Int) ∨ dir121 = (-1 : Int)) ∧
              (↑(List.take m122 (List.drop (0 : Nat) (s_rep m122 (4 : Int)))).length : Int) = n104 ∧
                (↑(List.take m122 (List.drop (0 : Nat) (List.map (fun n => [AV.int IntKind.i64 n]) dv123))).length :
                      Int) =
                    n104 ∧
                  n104 ≤ n104 ∧
                    n104 < n104 + (↑(List.map (fun n => [AV.int IntKind.i64 n]) qs110).length : Int) ∧
                      (0 : Int) ≤ s_pair (List.map (fun n => [AV.int IntKind.i64 n]) qs110) (n104 - n104) ∧
                        s_pair (List.map (fun n => [AV.int IntKind.i64 n]) qs110) (n104 - n104) < n104 ∧
                          z149.size ≤ (1000000 : Nat) ∧ z152.size ≤ (1000000 : Nat))) ∧
   ((∀ (em157 : Int → Int → ByteArray → ByteArray),
   ((∀ (fm dst : Int) (base : ByteArray),
  (0 : Int) ≤ dst →
    dst ≤ (1000000 : Int) →
      base.size ≤ (1000000 : Nat) → s_emitR (s_hit n104 k'111 a'112 fm dst) f'113 t'114 ro119 base (em157 fm dst base)) →
   (∀ (rows159 : List (List AV)),
   ((rows159 =
  s_gIterS
    { n := n104, dir := dir121, sl := n104, pi := pi105,
      way :=
        s_wayL n104 (s_last n104 (s_pair (List.map (fun n => [AV.int IntKind.i64 n]) qs110) (n104 - n104)) dir121)
          dir121 (n104 - (2 : Int)).toNat,
      sts := List.take m122 (List.drop (0 : Nat) (s_rep m122 (4 : Int))),
      dvs := List.take m122 (List.drop (0 : Nat) (List.map (fun n => [AV.int IntKind.i64 n]) dv123)), em := em157 }
    (s_gI3 n104 (s_pair (List.map (fun n => [AV.int IntKind.i64 n]) qs110) (n104 - n104)) z149 z152)
    (s_gI4 n104 (s_pair (List.map (fun n => [AV.int IntKind.i64 n]) qs110) (n104 - n104))) (0 : Nat)
    (n104 - (2 : Int)).toNat) →
   br ((↑rows159.length : Int) != n104)
    (Q ((AV.bool false, [])))
    (((Hyp ((0 : Int) < n104 ∧
  n104 ≤ (1000000 : Int) ∧
    (-1000000 : Int) ≤ p131 ∧ p131 ≤ (1000000 : Int) ∧ (-1000000 : Int) ≤ (-1 : Int) ∧ (-1 : Int) ≤ (1000000 : Int))) ∧
    (br (a'112 == s_rem (p131 + (-1 : Int)) n104)
     (br (!z149.toList == z152.toList)
      (br (k'111 == (2 : Int))
       (Q ((AV.bool true, [])))
       (br (k'111 == (1 : Int))
        (Q ((AV.bool true, [])))
        (((Hyp ((0 : Int) ≤ (0 : Int) ∧
  (0 : Int) ≤ (↑rows159.length : Int) ∧
    rows159.length ≤ (12 : Nat) ∧
      m122 = (s_rep m122 (4 : Int)).length ∧
        m122 = (List.map (fun n => [AV.int IntKind.i64 n]) dv123).length ∧
          s_prOk k'111 a'112 t'114 ro119 p131 (s_rem (p131 + (1 : Int)) n104) z149 z152 rows159)) ∧
        (Q ((AV.bool true, [])))))))
      (((Hyp ((0 : Int) ≤ (0 : Int) ∧
  (0 : Int) ≤ (↑rows159.length : Int) ∧
    rows159.length ≤ (12 : Nat) ∧
      m122 = (s_rep m122 (4 : Int)).length ∧
        m122 = (List.map (fun n => [AV.int IntKind.i64 n]) dv123).length ∧
          s_prOk k'111 a'112 t'114 ro119 p131 (s_rem (p131 + (1 : Int)) n104) z149 z152 rows159)) ∧
      (Q ((AV.bool true, []))))))
     (((Hyp ((0 : Int) < n104 ∧
  n104 ≤ (1000000 : Int) ∧
    (-1000000 : Int) ≤ s_rem (p131 + (1 : Int)) n104 ∧
      s_rem (p131 + (1 : Int)) n104 ≤ (1000000 : Int) ∧ (-1000000 : Int) ≤ (1 : Int) ∧ (1 : Int) ≤ (1000000 : Int))) ∧
     (br (!z149.toList == z152.toList)
      (br (k'111 == (2 : Int))
       (Q ((AV.bool true, [])))
       (br (k'111 == (1 : Int))
        (br (a'112 == s_rem (s_rem (p131 + (1 : Int)) n104 + (1 : Int)) n104)
         (Q ((AV.bool true, [])))
         (((Hyp ((0 : Int) ≤ (0 : Int) ∧
  (0 : Int) ≤ (↑rows159.length : Int) ∧
    rows159.length ≤ (12 : Nat) ∧
      m122 = (s_rep m122 (4 : Int)).length ∧
        m122 = (List.map (fun n => [AV.int IntKind.i64 n]) dv123).length ∧
          s_prOk k'111 a'112 t'114 ro119 p131 (s_rem (p131 + (1 : Int)) n104) z149 z152 rows159)) ∧
         (Q ((AV.bool true, []))))))
        (((Hyp ((0 : Int) ≤ (0 : Int) ∧
  (0 : Int) ≤ (↑rows159.length : Int) ∧
    rows159.length ≤ (12 : Nat) ∧
      m122 = (s_rep m122 (4 : Int)).length ∧
        m122 = (List.map (fun n => [AV.int IntKind.i64 n]) dv123).length ∧
          s_prOk k'111 a'112 t'114 ro119 p131 (s_rem (p131 + (1 : Int)) n104) z149 z152 rows159)) ∧
        (Q ((AV.bool true, [])))))))
      (((Hyp ((0 : Int) ≤ (0 : Int) ∧
  (0 : Int) ≤ (↑rows159.length : Int) ∧
    rows159.length ≤ (12 : Nat) ∧
      m122 = (s_rep m122 (4 : Int)).length ∧
        m122 = (List.map (fun n => [AV.int IntKind.i64 n]) dv123).length ∧
          s_prOk k'111 a'112 t'114 ro119 p131 (s_rem (p131 + (1 : Int)) n104) z149 z152 rows159)) ∧
      (Q ((AV.bool true, [])))))))))))))))))))))))))))))))
   (((Hyp (rows140.length ≤ (30 : Nat))) ∧
   ((∀ (z146 : ByteArray),
   ((s_clean z146 = z146 ∧ (0 : Nat) < z146.size ∧ z146.size ≤ (1000 : Nat)) →
   ((Hyp (rows140.length ≤ (30 : Nat))) ∧
   ((∀ (z149 : ByteArray),
   ((s_clean z149 = z149 ∧ (0 : Nat) < z149.size ∧ z149.size ≤ (1000 : Nat)) →
   chk ((0 : Nat) + m122 ≤ (s_rep m122 (4 : Int)).length) (chk ((0 : Nat) + m122 ≤ (List.map (fun n => [AV.int IntKind.i64 n]) dv123).length) (((Hyp (s_confOk n104 pi105 e106 g107 fi108
      (List.map (fun r => (r.getD (0 : Nat) AV.gone).toI) (List.map (fun n => [AV.int IntKind.i64 n]) qs110)) =
    true ∧
  s_actsB acts'117 ∧
    (0 : Int) ≤ ro119 ∧
      ro119 ≤ (1000000 : Int) ∧
        (0 : Int) ≤ n104 ∧
          n104 ≤ (1000000 : Int) ∧
            (dir121 = (1 : Int) ∨ dir121 = (-1 : Int)) ∧
              (↑(List.take m122 (List.drop (0 : Nat) (s_rep m122 (4 : Int)))).length : Int) = n104 ∧
                (↑(List.take m122 (List.drop (0 : Nat) (List.map (fun n => [AV.int IntKind.i64 n]) dv123))).length :
                      Int) =
                    n104 ∧
                  n104 ≤ n104 ∧
                    n104 < n104 + (↑(List.map (fun n => [AV.int IntKind.i64 n]) qs110).length : Int) ∧
                      (0 : Int) ≤ s_pair (List.map (fun n => [AV.int IntKind.i64 n]) qs110) (n104 - n104) ∧
                        s_pair (List.map (fun n => [AV.int IntKind.i64 n]) qs110) (n104 - n104) < n104 ∧
                          z146.size ≤ (1000000 : Nat) ∧ z149.size ≤ (1000000 : Nat))) ∧
   ((∀ (em154 : Int → Int → ByteArray → ByteArray),
   ((∀ (fm dst : Int) (base : ByteArray),
  (0 : Int) ≤ dst →
    dst ≤ (1000000 : Int) →
      base.size ≤ (1000000 : Nat) → s_emitR (s_hit n104 k'111 a'112 fm dst) f'113 t'114 ro119 base (em154 fm dst base)) →
   (∀ (rows156 : List (List AV)),
   ((rows156 =
  s_gIterS
    { n := n104, dir := dir121, sl := n104, pi := pi105,
      way :=
        s_wayL n104 (s_last n104 (s_pair (List.map (fun n => [AV.int IntKind.i64 n]) qs110) (n104 - n104)) dir121)
          dir121 (n104 - (2 : Int)).toNat,
      sts := List.take m122 (List.drop (0 : Nat) (s_rep m122 (4 : Int))),
      dvs := List.take m122 (List.drop (0 : Nat) (List.map (fun n => [AV.int IntKind.i64 n]) dv123)), em := em154 }
    (s_gI3 n104 (s_pair (List.map (fun n => [AV.int IntKind.i64 n]) qs110) (n104 - n104)) z146 z149)
    (s_gI4 n104 (s_pair (List.map (fun n => [AV.int IntKind.i64 n]) qs110) (n104 - n104))) (0 : Nat)
    (n104 - (2 : Int)).toNat) →
   br ((↑rows156.length : Int) != n104)
    (Q ((AV.bool false, [])))
    (((Hyp ((0 : Int) < n104 ∧
  n104 ≤ (1000000 : Int) ∧
    (-1000000 : Int) ≤ p131 ∧ p131 ≤ (1000000 : Int) ∧ (-1000000 : Int) ≤ (-1 : Int) ∧ (-1 : Int) ≤ (1000000 : Int))) ∧
    (br (a'112 == s_rem (p131 + (-1 : Int)) n104)
     (br (!z146.toList == z149.toList)
      (br (k'111 == (2 : Int))
       (Q ((AV.bool true, [])))
       (br (k'111 == (1 : Int))
        (Q ((AV.bool true, [])))
        (((Hyp ((0 : Int) ≤ (0 : Int) ∧
  (0 : Int) ≤ (↑rows156.length : Int) ∧
    rows156.length ≤ (12 : Nat) ∧
      m122 = (s_rep m122 (4 : Int)).length ∧
        m122 = (List.map (fun n => [AV.int IntKind.i64 n]) dv123).length ∧
          s_prOk k'111 a'112 t'114 ro119 p131 (s_rem (p131 + (1 : Int)) n104) z146 z149 rows156)) ∧
        (Q ((AV.bool true, [])))))))
      (((Hyp ((0 : Int) ≤ (0 : Int) ∧
  (0 : Int) ≤ (↑rows156.length : Int) ∧
    rows156.length ≤ (12 : Nat) ∧
      m122 = (s_rep m122 (4 : Int)).length ∧
        m122 = (List.map (fun n => [AV.int IntKind.i64 n]) dv123).length ∧
          s_prOk k'111 a'112 t'114 ro119 p131 (s_rem (p131 + (1 : Int)) n104) z146 z149 rows156)) ∧
      (Q ((AV.bool true, []))))))
     (((Hyp ((0 : Int) < n104 ∧
  n104 ≤ (1000000 : Int) ∧
    (-1000000 : Int) ≤ s_rem (p131 + (1 : Int)) n104 ∧
      s_rem (p131 + (1 : Int)) n104 ≤ (1000000 : Int) ∧ (-1000000 : Int) ≤ (1 : Int) ∧ (1 : Int) ≤ (1000000 : Int))) ∧
     (br (!z146.toList == z149.toList)
      (br (k'111 == (2 : Int))
       (Q ((AV.bool true, [])))
       (br (k'111 == (1 : Int))
        (br (a'112 == s_rem (s_rem (p131 + (1 : Int)) n104 + (1 : Int)) n104)
         (Q ((AV.bool true, [])))
         (((Hyp ((0 : Int) ≤ (0 : Int) ∧
  (0 : Int) ≤ (↑rows156.length : Int) ∧
    rows156.length ≤ (12 : Nat) ∧
      m122 = (s_rep m122 (4 : Int)).length ∧
        m122 = (List.map (fun n => [AV.int IntKind.i64 n]) dv123).length ∧
          s_prOk k'111 a'112 t'114 ro119 p131 (s_rem (p131 + (1 : Int)) n104) z146 z149 rows156)) ∧
         (Q ((AV.bool true, []))))))
        (((Hyp ((0 : Int) ≤ (0 : Int) ∧
  (0 : Int) ≤ (↑rows156.length : Int) ∧
    rows156.length ≤ (12 : Nat) ∧
      m122 = (s_rep m122 (4 : Int)).length ∧
        m122 = (List.map (fun n => [AV.int IntKind.i64 n]) dv123).length ∧
          s_prOk k'111 a'112 t'114 ro119 p131 (s_rem (p131 + (1 : Int)) n104) z146 z149 rows156)) ∧
        (Q ((AV.bool true, [])))))))
      (((Hyp ((0 : Int) ≤ (0 : Int) ∧
  (0 : Int) ≤ (↑rows156.length : Int) ∧
    rows156.length ≤ (12 : Nat) ∧
      m122 = (s_rep m122 (4 : Int)).length ∧
        m122 = (List.map (fun n => [AV.int IntKind.i64 n]) dv123).length ∧
          s_prOk k'111 a'112 t'114 ro119 p131 (s_rem (p131 + (1 : Int)) n104) z146 z149 rows156)) ∧
      (Q ((AV.bool true, []))))))))))))))))))))))))))))))
  (((Hyp (rows140.length ≤ (30 : Nat))) ∧
  ((∀ (z144 : ByteArray),
  ((s_clean z144 = z144 ∧ (0 : Nat) < z144.size ∧ z144.size ≤ (1000 : Nat)) →
  ((Hyp (rows140.length ≤ (30 : Nat))) ∧
  ((∀ (z147 : ByteArray),
  ((s_clean z147 = z147 ∧ (0 : Nat) < z147.size ∧ z147.size ≤ (1000 : Nat)) →
  chk ((0 : Nat) + m122 ≤ (s_rep m122 (4 : Int)).length) (chk ((0 : Nat) + m122 ≤ (List.map (fun n => [AV.int IntKind.i64 n]) dv123).length) (((Hyp (s_confOk n104 pi105 e106 g107 fi108
      (List.map (fun r => (r.getD (0 : Nat) AV.gone).toI) (List.map (fun n => [AV.int IntKind.i64 n]) qs110)) =
    true ∧
  s_actsB acts'117 ∧
    (0 : Int) ≤ ro119 ∧
      ro119 ≤ (1000000 : Int) ∧
        (0 : Int) ≤ n104 ∧
          n104 ≤ (1000000 : Int) ∧
            (dir121 = (1 : Int) ∨ dir121 = (-1 : Int)) ∧
              (↑(List.take m122 (List.drop (0 : Nat) (s_rep m122 (4 : Int)))).length : Int) = n104 ∧
                (↑(List.take m122 (List.drop (0 : Nat) (List.map (fun n => [AV.int IntKind.i64 n]) dv123))).length :
                      Int) =
                    n104 ∧
                  n104 ≤ n104 ∧
                    n104 < n104 + (↑(List.map (fun n => [AV.int IntKind.i64 n]) qs110).length : Int) ∧
                      (0 : Int) ≤ s_pair (List.map (fun n => [AV.int IntKind.i64 n]) qs110) (n104 - n104) ∧
                        s_pair (List.map (fun n => [AV.int IntKind.i64 n]) qs110) (n104 - n104) < n104 ∧
                          z144.size ≤ (1000000 : Nat) ∧ z147.size ≤ (1000000 : Nat))) ∧
  ((∀ (em152 : Int → Int → ByteArray → ByteArray),
  ((∀ (fm dst : Int) (base : ByteArray),
  (0 : Int) ≤ dst →
    dst ≤ (1000000 : Int) →
      base.size ≤ (1000000 : Nat) → s_emitR (s_hit n104 k'111 a'112 fm dst) f'113 t'114 ro119 base (em152 fm dst base)) →
  (∀ (rows154 : List (List AV)),
  ((rows154 =
  s_gIterS
    { n := n104, dir := dir121, sl := n104, pi := pi105,
      way :=
        s_wayL n104 (s_last n104 (s_pair (List.map (fun n => [AV.int IntKind.i64 n]) qs110) (n104 - n104)) dir121)
          dir121 (n104 - (2 : Int)).toNat,
      sts := List.take m122 (List.drop (0 : Nat) (s_rep m122 (4 : Int))),
      dvs := List.take m122 (List.drop (0 : Nat) (List.map (fun n => [AV.int IntKind.i64 n]) dv123)), em := em152 }
    (s_gI3 n104 (s_pair (List.map (fun n => [AV.int IntKind.i64 n]) qs110) (n104 - n104)) z144 z147)
    (s_gI4 n104 (s_pair (List.map (fun n => [AV.int IntKind.i64 n]) qs110) (n104 - n104))) (0 : Nat)
    (n104 - (2 : Int)).toNat) →
  br ((↑rows154.length : Int) != n104)
   (Q ((AV.bool false, [])))
   (((Hyp ((0 : Int) < n104 ∧
  n104 ≤ (1000000 : Int) ∧
    (-1000000 : Int) ≤ p131 ∧ p131 ≤ (1000000 : Int) ∧ (-1000000 : Int) ≤ (-1 : Int) ∧ (-1 : Int) ≤ (1000000 : Int))) ∧
   (br (a'112 == s_rem (p131 + (-1 : Int)) n104)
    (br (!z144.toList == z147.toList)
     (br (k'111 == (2 : Int))
      (Q ((AV.bool true, [])))
      (br (k'111 == (1 : Int))
       (Q ((AV.bool true, [])))
       (((Hyp ((0 : Int) ≤ (0 : Int) ∧
  (0 : Int) ≤ (↑rows154.length : Int) ∧
    rows154.length ≤ (12 : Nat) ∧
      m122 = (s_rep m122 (4 : Int)).length ∧
        m122 = (List.map (fun n => [AV.int IntKind.i64 n]) dv123).length ∧
          s_prOk k'111 a'112 t'114 ro119 p131 (s_rem (p131 + (1 : Int)) n104) z144 z147 rows154)) ∧
       (Q ((AV.bool true, [])))))))
     (((Hyp ((0 : Int) ≤ (0 : Int) ∧
  (0 : Int) ≤ (↑rows154.length : Int) ∧
    rows154.length ≤ (12 : Nat) ∧
      m122 = (s_rep m122 (4 : Int)).length ∧
        m122 = (List.map (fun n => [AV.int IntKind.i64 n]) dv123).length ∧
          s_prOk k'111 a'112 t'114 ro119 p131 (s_rem (p131 + (1 : Int)) n104) z144 z147 rows154)) ∧
     (Q ((AV.bool true, []))))))
    (((Hyp ((0 : Int) < n104 ∧
  n104 ≤ (1000000 : Int) ∧
    (-1000000 : Int) ≤ s_rem (p131 + (1 : Int)) n104 ∧
      s_rem (p131 + (1 : Int)) n104 ≤ (1000000 : Int) ∧ (-1000000 : Int) ≤ (1 : Int) ∧ (1 : Int) ≤ (1000000 : Int))) ∧
    (br (!z144.toList == z147.toList)
     (br (k'111 == (2 : Int))
      (Q ((AV.bool true, [])))
      (br (k'111 == (1 : Int))
       (br (a'112 == s_rem (s_rem (p131 + (1 : Int)) n104 + (1 : Int)) n104)
        (Q ((AV.bool true, [])))
        (((Hyp ((0 : Int) ≤ (0 : Int) ∧
  (0 : Int) ≤ (↑rows154.length : Int) ∧
    rows154.length ≤ (12 : Nat) ∧
      m122 = (s_rep m122 (4 : Int)).length ∧
        m122 = (List.map (fun n => [AV.int IntKind.i64 n]) dv123).length ∧
          s_prOk k'111 a'112 t'114 ro119 p131 (s_rem (p131 + (1 : Int)) n104) z144 z147 rows154)) ∧
        (Q ((AV.bool true, []))))))
       (((Hyp ((0 : Int) ≤ (0 : Int) ∧
  (0 : Int) ≤ (↑rows154.length : Int) ∧
    rows154.length ≤ (12 : Nat) ∧
      m122 = (s_rep m122 (4 : Int)).length ∧
        m122 = (List.map (fun n => [AV.int IntKind.i64 n]) dv123).length ∧
          s_prOk k'111 a'112 t'114 ro119 p131 (s_rem (p131 + (1 : Int)) n104) z144 z147 rows154)) ∧
       (Q ((AV.bool true, [])))))))
     (((Hyp ((0 : Int) ≤ (0 : Int) ∧
  (0 : Int) ≤ (↑rows154.length : Int) ∧
    rows154.length ≤ (12 : Nat) ∧
      m122 = (s_rep m122 (4 : Int)).length ∧
        m122 = (List.map (fun n => [AV.int IntKind.i64 n]) dv123).length ∧
          s_prOk k'111 a'112 t'114 ro119 p131 (s_rem (p131 + (1 : Int)) n104) z144 z147 rows154)) ∧
     (Q ((AV.bool true, []))))))))))))))))))))))))))))))))))))))))))))))))))))))))))))))))))))))))))) := by kernel_rfl
end Go.Proofs.YtiemjcchlfbglaaGreatE
/- SpreadPairs: the plain law. -/
namespace Go.Proofs.YtiemjcchlfbglaaGreatE
open Go Go.WideShapes
set_option linter.unusedVariables false
set_option linter.unusedSimpArgs false
set_option maxRecDepth 100000

theorem okLPr : OkLp Tryz.prog H0 5 22 lPr := by
  refine okLp_of (U := 6) (k := 6) okP2 lPr (fun vals _ => match vals with | [_, _, .row _ _ rows, .int _ i] => ((rows.length : Int) - i).toNat | _ => 0) fun vals h Q hl => ?_
  unfold lPr at hl
  split at hl
  · rename_i no p q nw rows i n pi e g fi nl ps fk fa ff ft nl3 acts nl4 ds ro sl dir m1 m2 z z2 sts dvs
    obtain ⟨⟨h0, h1, h2, h3, h4, h5⟩, hq⟩ := hyp_iff.1 hl
    refine to (nfPra ..) (br_intro (fun c => ?_) fun c => hq)
    have c := of_decide_eq_true c
    have wi : IntKind.i64.wrap (i + 1) = i + 1 := wr (by omega) (by omega)
    have nxt : ((rows.length : Int) - (i + 1)).toNat < ((rows.length : Int) - i).toNat := by omega
    have hyp : (0 ≤ i + 1 ∧ i + 1 ≤ (rows.length : Int) ∧ rows.length ≤ 12 ∧ m1 = sts.length ∧ m2 = dvs.length ∧ s_prOk fk fa ft ro p q z z2 rows) := ⟨by omega, by omega, h2, h3, h4, h5⟩
    have g1 : 0 + m1 ≤ sts.length := by omega
    have g2 : 0 + m2 ≤ dvs.length := by omega
    rw [wi]
    refine br_intro (fun _ => ⟨nxt, hyp_iff.2 ⟨hyp, hq⟩⟩) fun c1 => br_intro (fun _ => ⟨nxt, hyp_iff.2 ⟨hyp, hq⟩⟩) fun c2 => ?_
    have c1 : ¬ p = i := by simpa using c1
    have c2 : ¬ q = i := by simpa using c2
    rw [chk_iff, chk_iff]
    refine ⟨g1, g2, fun b hb => br_intro (fun _ => ⟨nxt, hyp_iff.2 ⟨hyp, hq⟩⟩) fun hb1 => ?_⟩
    have hri : s_right fk fa ft ro i = true := by rw [← hb]; simpa using hb1
    obtain ⟨f1, f2, f3, f4⟩ := h5 i h0 c (fun e => c1 e.symm) (fun e => c2 e.symm) hri
    have bad : ∀ {x : Bool}, (!x) = true → x = true → False := fun {x} h1 h2 => by rw [h2] at h1; cases h1
    rw [chk_iff, chk_iff]
    refine ⟨g1, g2, fun b1 e1 => br_intro (fun t1 => ?_) fun t1 => ?_⟩
    · rw [chk_iff]
      refine ⟨⟨h0, c⟩, fun b2 x y hx hy hf => br_intro (fun hn => (bad hn (hf (by rw [hx, hy]; exact f1 (e1.symm.trans t1)))).elim) fun _ => ?_⟩
      rw [chk_iff, chk_iff]
      refine ⟨g1, g2, fun b3 e3 => br_intro (fun t3 => ?_) fun t3 => ?_⟩
      · rw [chk_iff]
        refine ⟨⟨h0, c⟩, fun b4 x y hx hy hf => br_intro (fun hn => (bad hn (hf (by rw [hx, hy]; exact f2 (e3.symm.trans t3)))).elim) fun _ => ?_⟩
        rw [chk_iff, chk_iff]
        refine ⟨g1, g2, fun b5 hb5 => br_intro (fun q1 => ?_) fun _ => ⟨nxt, hyp_iff.2 ⟨hyp, hq⟩⟩⟩
        rw [chk_iff, chk_iff]
        refine ⟨g1, g2, fun b6 hb6 => br_intro (fun q2 => br_intro (fun hz => ?_) fun _ => ⟨nxt, hyp_iff.2 ⟨hyp, hq⟩⟩) fun _ => ⟨nxt, hyp_iff.2 ⟨hyp, hq⟩⟩⟩
        rw [chk_iff]
        exact ⟨⟨h0, c⟩, hyp_iff.2 ⟨f4, fun b7 x hx hw => br_intro (fun q3 => absurd (hw q3) (by rw [hx]; exact f3 (hb5.symm.trans q1) (hb6.symm.trans q2) (fun e => by rw [e] at hz; simp at hz))) fun _ => ⟨nxt, hyp_iff.2 ⟨hyp, hq⟩⟩⟩⟩
      · rw [chk_iff, chk_iff]
        refine ⟨g1, g2, fun b5 hb5 => br_intro (fun q1 => ?_) fun _ => ⟨nxt, hyp_iff.2 ⟨hyp, hq⟩⟩⟩
        rw [chk_iff, chk_iff]
        refine ⟨g1, g2, fun b6 hb6 => br_intro (fun q2 => br_intro (fun hz => ?_) fun _ => ⟨nxt, hyp_iff.2 ⟨hyp, hq⟩⟩) fun _ => ⟨nxt, hyp_iff.2 ⟨hyp, hq⟩⟩⟩
        rw [chk_iff]
        exact ⟨⟨h0, c⟩, hyp_iff.2 ⟨f4, fun b7 x hx hw => br_intro (fun q3 => absurd (hw q3) (by rw [hx]; exact f3 (hb5.symm.trans q1) (hb6.symm.trans q2) (fun e => by rw [e] at hz; simp at hz))) fun _ => ⟨nxt, hyp_iff.2 ⟨hyp, hq⟩⟩⟩⟩
    · rw [chk_iff, chk_iff]
      refine ⟨g1, g2, fun b3 e3 => br_intro (fun t3 => ?_) fun t3 => ?_⟩
      · rw [chk_iff]
        refine ⟨⟨h0, c⟩, fun b4 x y hx hy hf => br_intro (fun hn => (bad hn (hf (by rw [hx, hy]; exact f2 (e3.symm.trans t3)))).elim) fun _ => ?_⟩
        rw [chk_iff, chk_iff]
        refine ⟨g1, g2, fun b5 hb5 => br_intro (fun q1 => ?_) fun _ => ⟨nxt, hyp_iff.2 ⟨hyp, hq⟩⟩⟩
        rw [chk_iff, chk_iff]
        refine ⟨g1, g2, fun b6 hb6 => br_intro (fun q2 => br_intro (fun hz => ?_) fun _ => ⟨nxt, hyp_iff.2 ⟨hyp, hq⟩⟩) fun _ => ⟨nxt, hyp_iff.2 ⟨hyp, hq⟩⟩⟩
        rw [chk_iff]
        exact ⟨⟨h0, c⟩, hyp_iff.2 ⟨f4, fun b7 x hx hw => br_intro (fun q3 => absurd (hw q3) (by rw [hx]; exact f3 (hb5.symm.trans q1) (hb6.symm.trans q2) (fun e => by rw [e] at hz; simp at hz))) fun _ => ⟨nxt, hyp_iff.2 ⟨hyp, hq⟩⟩⟩⟩
      · rw [chk_iff, chk_iff]
        refine ⟨g1, g2, fun b5 hb5 => br_intro (fun q1 => ?_) fun _ => ⟨nxt, hyp_iff.2 ⟨hyp, hq⟩⟩⟩
        rw [chk_iff, chk_iff]
        refine ⟨g1, g2, fun b6 hb6 => br_intro (fun q2 => br_intro (fun hz => ?_) fun _ => ⟨nxt, hyp_iff.2 ⟨hyp, hq⟩⟩) fun _ => ⟨nxt, hyp_iff.2 ⟨hyp, hq⟩⟩⟩
        rw [chk_iff]
        exact ⟨⟨h0, c⟩, hyp_iff.2 ⟨f4, fun b7 x hx hw => br_intro (fun q3 => absurd (hw q3) (by rw [hx]; exact f3 (hb5.symm.trans q1) (hb6.symm.trans q2) (fun e => by rw [e] at hz; simp at hz))) fun _ => ⟨nxt, hyp_iff.2 ⟨hyp, hq⟩⟩⟩⟩
  · exact hl.elim
theorem okP2L : OkSp Tryz.prog H0 P2L := ⟨okP2.fn, okLPr, trivial⟩
section
variable {P : RG} {o : Int} {M : Nat} {hit : Int → Int → Bool} {fr to_ ro : Int}
/-- What leaves a node that is not bad is a front of what one of the two sent. -/
theorem contained2 {x0 x1 w : ByteArray} (hok : gOk P o true M) (hsl : P.n ≤ P.sl) (hS : ∀ k, s_int P.sts (gN P o k) ≠ 0) (hg : ∀ x, gGrd P o x = x) (hE : gEm P hit fr to_ ro) (h0s : x0.size ≤ 1000000) (h1s : x1.size ≤ 1000000) (bad : Nat → Prop)
    (h1 : 1 ≤ M → ¬ bad 1 → ((hit (gN P o 0) (gN P o 1) = false ∨ to_ ≤ ro) ∧ s_front x0 w) ∨ ((hit (gN P o (P.n.toNat - 1)) (gN P o 1) = false ∨ to_ ≤ ro) ∧ s_front x1 w))
    (h2 : 2 ≤ M → ¬ bad 2 → ((hit (gN P o 1) (gN P o 2) = false ∨ to_ ≤ ro) ∧ ¬ bad 1) ∨ ((hit (gN P o 0) (gN P o 2) = false ∨ to_ ≤ ro) ∧ s_front x0 w))
    (h3 : ∀ k : Nat, k + 3 ≤ M → ¬ bad (k + 3) → ((hit (gN P o (k + 2)) (gN P o (k + 3)) = false ∨ to_ ≤ ro) ∧ ¬ bad (k + 2)) ∨ ((hit (gN P o (k + 1)) (gN P o (k + 3)) = false ∨ to_ ≤ ro) ∧ ¬ bad (k + 1))) :
    ∀ k : Nat, 0 < k → k ≤ M → ¬ bad k → s_front (gO P o true x0 x1 k).1 w := by
  have hO := gO_size (a := x0) (b := x1) (two := true) hok hE h0s h1s
  have main : ∀ k : Nat, k + 1 ≤ M → (¬ bad (k + 1) → s_front (gO P o true x0 x1 (k + 1)).1 w) ∧ (0 < k → ¬ bad k → s_front (gO P o true x0 x1 (k + 1)).2 w) := by
    intro k
    induction k with
    | zero =>
      intro hk
      refine ⟨fun hb => ?_, fun h => by omega⟩
      show s_front (gOutX P o true x0 x1 0) w
      rw [gOut_com (hS 1) (.inr hsl)]
      rcases h1 hk hb with ⟨hp, hf⟩ | ⟨hp, hf⟩
      · refine front_trans (front_com1 _ _) ?_
        unfold gDirX
        rw [if_pos rfl, hg, gC_pass hok hE h0s hp]
        exact front_trans (front_clean _) hf
      · refine front_trans (front_com2 _ _) ?_
        unfold gSkipX
        rw [if_pos rfl]
        show s_front (gC P o x1 (P.n.toNat - 1) 1) w
        rw [gC_pass hok hE h1s hp]
        exact front_trans (front_clean _) hf
    | succ k ih =>
      intro hk
      have ih := ih (by omega)
      refine ⟨fun hb => ?_, fun _ hb => ih.1 hb⟩
      show s_front (gOutX P o true (gO P o true x0 x1 (k + 1)).1 (gO P o true x0 x1 (k + 1)).2 (k + 1)) w
      rw [gOut_com (hS (k + 2)) (.inr hsl)]
      have dir : (hit (gN P o (k + 1)) (gN P o (k + 2)) = false ∨ to_ ≤ ro) → ¬ bad (k + 1) → s_front (s_com (gDirX P o (gO P o true x0 x1 (k + 1)).1 (k + 1)) (gSkipX P o true (gO P o true x0 x1 (k + 1)).2 (k + 1))) w := fun hp hn => by
        refine front_trans (front_com1 _ _) ?_
        unfold gDirX
        rw [if_neg (by omega), gC_pass hok hE (hO (k + 1)).1 hp]
        exact front_trans (front_clean _) (ih.1 hn)
      have skp : (hit (gN P o k) (gN P o (k + 2)) = false ∨ to_ ≤ ro) → s_front (gO P o true x0 x1 (k + 1)).2 w → s_front (s_com (gDirX P o (gO P o true x0 x1 (k + 1)).1 (k + 1)) (gSkipX P o true (gO P o true x0 x1 (k + 1)).2 (k + 1))) w := fun hp hn => by
        refine front_trans (front_com2 _ _) ?_
        unfold gSkipX
        rw [if_neg (by omega), Nat.add_sub_cancel, gC_pass hok hE (hO (k + 1)).2 hp]
        exact front_trans (front_clean _) hn
      cases k with
      | zero =>
        rcases h2 hk hb with ⟨hp, hn⟩ | ⟨hp, hf⟩
        · exact dir hp hn
        · exact skp hp hf
      | succ j =>
        rcases h3 j hk hb with ⟨hp, hn⟩ | ⟨hp, hn⟩
        · exact dir hp hn
        · exact skp hp (ih.2 (by omega) hn)
  intro k hk hM hb
  obtain ⟨j, rfl⟩ : ∃ j, k = j + 1 := ⟨k - 1, by omega⟩
  exact (main j hM).1 hb
end
theorem lkO_eq {n o dir : Int} (hn : 6 ≤ n) (hd : dir = 1 ∨ dir = -1) (hs : 0 ≤ o ∧ o < n) : ∃ v, n ≤ v ∧ s_linkO n (s_node n o dir (n.toNat - 1)) (s_node n o dir 1) = some v := by
  have l1 := node_lt (n := n) (o := o) (dir := dir) (by omega) (n.toNat - 1)
  have l2 := node_lt (n := n) (o := o) (dir := dir) (by omega) 1
  have hk : ((n.toNat - 1 : Nat) : Int) < n := by omega
  rcases hd with rfl | rfl
  · refine ⟨s_node n o 1 (n.toNat - 1) + n, by omega, (link2 hn l1.1 l1.2 ?_).1⟩
    rw [node_up hs.1 hs.2 (by omega), node_up hs.1 hs.2 hk]
    split <;> split <;> split <;> omega
  · refine ⟨s_node n o (-1) 1 + n, by omega, (link2 hn l2.1 l2.2 ?_).2⟩
    rw [node_dn hs.1 hs.2 hk, node_dn hs.1 hs.2 (k := 1) (by omega)]
    split <;> split <;> split <;> omega
theorem run_pairs {n dir sl pi k a f t ro p : Int} {sts dvs : List (List AV)} {em : Int → Int → ByteArray → ByteArray} {z z2 : ByteArray} {rows : List (List AV)} (hn : 6 ≤ n) (hn2 : n ≤ 12) (hd : dir = 1 ∨ dir = -1) (hp : 0 ≤ p ∧ p < n) (hsl : n ≤ sl)
    (hS : ∀ i, 0 ≤ i → i < n → s_int sts i = 4) (hD : ∀ i, 0 ≤ i → i < n → -(2 * pi) ≤ s_int dvs i ∧ s_int dvs i ≤ 2 * pi)
    (hr : rows = s_gIterS ⟨n, dir, sl, pi, s_wayL n (s_last n p dir) dir (n - 2).toNat, sts, dvs, em⟩ (s_gI3 n p z z2) (s_gI4 n p) 0 (n - 2).toNat)
    (hE : ∀ (fm dst : Int) (base : ByteArray), 0 ≤ dst → dst ≤ 1000000 → base.size ≤ 1000000 → s_emitR (s_hit n k a fm dst) f t ro base (em fm dst base)) (hz : z.size ≤ 1000) (hz2 : z2.size ≤ 1000) (hc : s_clean z = z) (hc2 : s_clean z2 = z2)
    (hx : z = z2 ∨ (k ≠ 2 ∧ (k = 1 → a ≠ s_rem (p + -1) n ∧ a ≠ s_rem (s_rem (p + 1) n + 1) n))) :
    rows.length = n.toNat ∧ s_prOk k a t ro p (s_rem (p + 1) n) z z2 rows := by
  obtain ⟨P, Pn, Pd, Psl, Pe, hok, hN, hS', hg, hl, get⟩ := run_two hn hn2 hd hp hS hD hr
  have hE' : gEm P (s_hit n k a) f t ro := by unfold gEm; rw [Pe]; exact hE
  have hll := last_lt (n := n) (dir := dir) (by omega) hp.1 hp.2
  have hln := last_node (dir := dir) hn hp.1 hp.2 hd
  refine ⟨hl, fun j j0 j1 jp jq hrj => ?_⟩
  have j1 : j < n := by omega
  have hf := far_lt (n := n) (o := s_last n p dir) (dir := dir) (by omega) j
  have hnf := node_far hd hll.1 hll.2 j0 j1
  have f0 : (s_far n (s_last n p dir) dir j).toNat ≠ 0 := fun h => by
    rw [h, node_zero hll.1 hll.2] at hnf
    unfold s_last at hnf
    split at hnf
    · exact jq hnf.symm
    · exact jp hnf.symm
  have f1 : (s_far n (s_last n p dir) dir j).toNat ≠ n.toNat - 1 := fun h => by
    rw [h, hln] at hnf
    split at hnf
    · exact jp hnf.symm
    · exact jq hnf.symm
  have hM : (s_far n (s_last n p dir) dir j).toNat ≤ (n - 2).toNat := by omega
  unfold s_outP
  rw [get j j0 j1, gSide_out hok hM]
  have x0s : (s_x0 dir z z2).size ≤ 1000000 := by unfold s_x0; split <;> omega
  have x1s : (s_x1 dir z z2).size ≤ 1000000 := by unfold s_x1; split <;> omega
  /- one owner that is right: ow, w -/
  have fr : ∀ (w : ByteArray) (ow : Int), (ow = s_last n p dir ∧ w = s_x0 dir z z2 ∨ ow = s_node n (s_last n p dir) dir (n.toNat - 1) ∧ w = s_x1 dir z z2) → s_right k a t ro ow = true → s_front (gO P (s_last n p dir) true (s_x0 dir z z2) (s_x1 dir z z2) (s_far n (s_last n p dir) dir j).toNat).1 w := by
    intro w ow how hro
    have fin : ∀ bad : Nat → Prop, ¬ bad (s_far n (s_last n p dir) dir j).toNat → _ → _ → _ → s_front (gO P (s_last n p dir) true (s_x0 dir z z2) (s_x1 dir z z2) (s_far n (s_last n p dir) dir j).toNat).1 w := fun bad hb a1 a2 a3 =>
      contained2 hok (by omega) hS' hg hE' x0s x1s bad a1 a2 a3 _ (by omega) hM hb
    have nN : P.n.toNat - 1 = n.toNat - 1 := by rw [Pn]
    by_cases ht : t ≤ ro
    · refine fin (fun _ => False) id (fun _ _ => ?_) (fun _ _ => .inl ⟨.inr ht, id⟩) (fun _ _ _ => .inl ⟨.inr ht, id⟩)
      rcases how with ⟨_, rfl⟩ | ⟨_, rfl⟩
      · exact .inl ⟨.inr ht, front_refl _⟩
      · exact .inr ⟨.inr ht, front_refl _⟩
    by_cases k1 : k = 1
    · subst k1
      have hh : ∀ x y, x ≠ a → s_hit n 1 a x y = false := fun x y hx => by
        unfold s_hit
        rw [if_pos rfl]
        exact beq_eq_false_iff_ne.2 hx
      have hoa : ow ≠ a := fun e => by unfold s_right at hro; simp [e] at hro; omega
      have hja : j ≠ a := fun e => by unfold s_right at hrj; simp [e] at hrj; omega
      have dst : ∀ i i' : Nat, (i : Int) < n → (i' : Int) < n → i ≠ i' → s_node n (s_last n p dir) dir i = a → s_node n (s_last n p dir) dir i' ≠ a := fun i i' h1 h2 hne e1 e2 => by
        have q1 := far_node hd hll.1 hll.2 h1
        have q2 := far_node hd hll.1 hll.2 h2
        rw [e1] at q1
        rw [e2, q1] at q2
        omega
      refine fin (fun i => s_node n (s_last n p dir) dir i = a) (by rw [hnf]; exact hja) (fun _ _ => ?_) (fun _ hb => ?_) (fun i hi hb => ?_)
      · rw [hN, hN, hN, nN]
        rcases how with ⟨rfl, rfl⟩ | ⟨rfl, rfl⟩
        · exact .inl ⟨.inl (hh _ _ (by rw [node_zero hll.1 hll.2]; exact hoa)), front_refl _⟩
        · exact .inr ⟨.inl (hh _ _ hoa), front_refl _⟩
      · rw [hN, hN, hN]
        by_cases h1 : s_node n (s_last n p dir) dir 1 = a
        · have hzz : z = z2 := by
            rcases hx with hx | ⟨_, hx⟩
            · exact hx
            · exfalso
              obtain ⟨b1, b2⟩ := hx rfl
              rcases hd with rfl | rfl
              · have el : s_last n p 1 = s_rem (p + 1) n := by unfold s_last; rw [if_pos rfl]
                rw [el] at h1
                exact b2 (h1.symm.trans (node_of (n := n) (o := s_rem (p + 1) n) (dir := 1) 1 (x := 1) (by omega)).symm)
              · have el : s_last n p (-1) = p := by unfold s_last; rw [if_neg (by omega)]
                rw [el] at h1
                exact b1 (h1.symm.trans (node_of (n := n) (o := p) (dir := -1) 1 (x := -1) (by omega)).symm)
          have ww : w = s_x0 dir z z2 := by
            rcases how with ⟨_, e⟩ | ⟨_, e⟩
            · exact e
            · rw [e, hzz]; unfold s_x0 s_x1; split <;> rfl
          exact .inr ⟨.inl (hh _ _ (dst 1 0 (by omega) (by omega) (by omega) h1)), by rw [ww]; exact front_refl _⟩
        · exact .inl ⟨.inl (hh _ _ h1), h1⟩
      · rw [hN, hN, hN]
        by_cases h1 : s_node n (s_last n p dir) dir (i + 2) = a
        · exact .inr ⟨.inl (hh _ _ (dst (i + 2) (i + 1) (by omega) (by omega) (by omega) h1)), dst (i + 2) (i + 1) (by omega) (by omega) (by omega) h1⟩
        · exact .inl ⟨.inl (hh _ _ h1), h1⟩
    by_cases k2 : k = 2
    · subst k2
      have hzz : z = z2 := hx.elim id fun h => absurd rfl h.1
      have ww : w = s_x0 dir z z2 ∧ s_x1 dir z z2 = s_x0 dir z z2 := by
        have : s_x1 dir z z2 = s_x0 dir z z2 := by rw [hzz]; unfold s_x0 s_x1; split <;> rfl
        rcases how with ⟨_, e⟩ | ⟨_, e⟩
        · exact ⟨e, this⟩
        · exact ⟨e.trans this, this⟩
      rw [ww.1]
      have hl1 : ∀ i : Nat, (i : Int) + 1 < n → s_hit n 2 a (s_node n (s_last n p dir) dir i) (s_node n (s_last n p dir) dir (i + 1)) = (lk1 n (s_last n p dir) dir i == a) := fun i hi => hit_link (lk1_eq hn hd hll hi)
      have hl2 : ∀ i : Nat, (i : Int) + 2 < n → s_hit n 2 a (s_node n (s_last n p dir) dir i) (s_node n (s_last n p dir) dir (i + 2)) = (lk2 n (s_last n p dir) dir i == a) := fun i hi => hit_link (lk2_eq hn hd hll hi)
      obtain ⟨v, hv, hvl⟩ := lkO_eq (o := s_last n p dir) hn hd hll
      have hlO : s_hit n 2 a (s_node n (s_last n p dir) dir (n.toNat - 1)) (s_node n (s_last n p dir) dir 1) = (v == a) := hit_link hvl
      have g1 := fun i => lk1_lt (n := n) (o := s_last n p dir) (dir := dir) (by omega) i
      have g2 := fun i => lk2_ge (n := n) (o := s_last n p dir) (dir := dir) (by omega) i
      refine contained2 hok (by omega) hS' hg hE' x0s x1s (fun _ => False) (fun _ _ => ?_) (fun _ _ => ?_) (fun i hi _ => ?_) _ (by omega) hM id
      · rw [hN, hN, hN, nN, hl1 0 (by omega), hlO]
        by_cases h : lk1 n (s_last n p dir) dir 0 = a
        · have := g1 0
          exact .inr ⟨.inl (beq_eq_false_iff_ne.2 (by omega)), by rw [ww.2]; exact front_refl _⟩
        · exact .inl ⟨.inl (beq_eq_false_iff_ne.2 h), front_refl _⟩
      · rw [hN, hN, hN, hl1 1 (by omega), hl2 0 (by omega)]
        by_cases h : lk1 n (s_last n p dir) dir 1 = a
        · have := g1 1
          have := g2 0
          exact .inr ⟨.inl (beq_eq_false_iff_ne.2 (by omega)), front_refl _⟩
        · exact .inl ⟨.inl (beq_eq_false_iff_ne.2 h), id⟩
      · rw [hN, hN, hN, hl1 (i + 2) (by omega), hl2 (i + 1) (by omega)]
        by_cases h : lk1 n (s_last n p dir) dir (i + 2) = a
        · have := g1 (i + 2)
          have := g2 (i + 1)
          exact .inr ⟨.inl (beq_eq_false_iff_ne.2 (by omega)), id⟩
        · exact .inl ⟨.inl (beq_eq_false_iff_ne.2 h), id⟩
    · have hh : ∀ x y, s_hit n k a x y = false := fun x y => by
        unfold s_hit
        rw [if_neg k1, if_neg k2]
      refine fin (fun _ => False) id (fun _ _ => ?_) (fun _ _ => .inl ⟨.inl (hh _ _), id⟩) (fun _ _ _ => .inl ⟨.inl (hh _ _), id⟩)
      rcases how with ⟨_, rfl⟩ | ⟨_, rfl⟩
      · exact .inl ⟨.inl (hh _ _), front_refl _⟩
      · exact .inr ⟨.inl (hh _ _), front_refl _⟩
  have fp : s_right k a t ro p = true → s_front (gO P (s_last n p dir) true (s_x0 dir z z2) (s_x1 dir z z2) (s_far n (s_last n p dir) dir j).toNat).1 z := fun h => by
    refine fr z p ?_ h
    rw [hln]
    unfold s_last s_x0 s_x1
    by_cases hdd : dir = 1
    · rw [if_pos hdd, if_pos hdd, if_pos hdd, if_pos hdd]; exact .inr ⟨rfl, rfl⟩
    · rw [if_neg hdd, if_neg hdd, if_neg hdd, if_neg hdd]; exact .inl ⟨rfl, rfl⟩
  have fq : s_right k a t ro (s_rem (p + 1) n) = true → s_front (gO P (s_last n p dir) true (s_x0 dir z z2) (s_x1 dir z z2) (s_far n (s_last n p dir) dir j).toNat).1 z2 := fun h => by
    refine fr z2 (s_rem (p + 1) n) ?_ h
    rw [hln]
    unfold s_last s_x0 s_x1
    by_cases hdd : dir = 1
    · rw [if_pos hdd, if_pos hdd, if_pos hdd, if_pos hdd]; exact .inl ⟨rfl, rfl⟩
    · rw [if_neg hdd, if_neg hdd, if_neg hdd, if_neg hdd]; exact .inr ⟨rfl, rfl⟩
  refine ⟨fp, fq, fun h1 h2 hne hw => hne ?_, (gO_size hok hE' x0s x1s _).1⟩
  exact (whole_eq hw (fp h1) (cl_iff.2 hc)).symm.trans (whole_eq hw (fq h2) (cl_iff.2 hc2))
theorem toL_eq {a b : ByteArray} (h : (!a.toList == b.toList) = false) : a = b := by
  have h : (a.toList == b.toList) = true := by simpa using h
  have h := eq_of_beq h
  rw [toListZ, toListZ] at h
  exact bl_inj h
theorem pairs_holds (n pi e g fi : Int) (nl : Bool) (ps : List (List AV)) (fk fa ff ft : Int) (nl1 nl2 : Bool) (acts ds : List (List AV)) (hacts : ∀ r ∈ acts, ∃ (a b : Int) (s : ByteArray), r = [.int .i64 a, .int .i64 b, .str s] ∧ (s.size : Int) ≤ maxLen) (hal : acts.length ≤ maxLen) (hdl : ds.length ≤ maxLen) (hds : ∀ r ∈ ds, AInt .i64 r)
    (round a : Int) (up : Bool) (k r sl pk pv : Int) (nl3 : Bool) (ec : List (List AV)) (nl4 : Bool) (ns : List (List AV)) :
    inlW Tryz.prog H0 P2L 6 (InO Tryz.prog H0 P2L 6 6) 5 [cf n pi e g fi nl ps, .agg [.int .i64 fk, .int .i64 fa, .int .i64 ff, .int .i64 ft, .row nl1 [.int .i64, .int .i64, .str] acts, .row nl2 [.int .i64] ds], .int .i64 round, .int .i64 a, .bool up, .agg [.int .i64 k, .int .i64 r, .int .i64 sl, .int .i64 pk, .int .i64 pv, .row nl3 [.int .i64, .int .i64] ec], .row nl4 [.int .i64] ns] [] (fun r => r.1 = .bool true) := by
  refine to (nfPr ..) (hyp_iff.2 ⟨by unfold maxLen at hal; omega, fun b hb => br_intro (fun _ => rfl) fun _ => ?_⟩)
  intro n' pi' e' g' fi' nl' qs k' a' f' t' nl1' nl2' acts' ds' ro sl' dir m dv hx hqs
  obtain ⟨hm, hf, ro0, ro1, sl0, sl1, hdir, hmn, hdv⟩ := hx
  have hd : dir = 1 ∨ dir = -1 := by rw [hdir]; split <;> omega
  have hn := hm.1
  have hn2 := hm.2.1
  have hp := madeR hm
  have h6 := rem_lt a (show (0 : Int) < 6 by omega)
  have hq1 : qs = [s_rem a 6] := by
    rw [hqs, wr (x := 1 + s_rem a 6) (by omega) (by omega)]
    show [s_rem (1 + s_rem a 6) (n' + 1) - 1] = _
    have := (rem_c (show 0 < n' + 1 by omega) (1 + s_rem a 6)).1 (by omega) (by omega)
    rw [this]
    congr 1
    omega
  have hpair : s_pair (List.map (fun n => [AV.int IntKind.i64 n]) qs) 0 = s_rem a 6 := by rw [hq1]; rfl
  have hql : (List.map (fun n => [AV.int IntKind.i64 n]) qs).length = 1 := by rw [hq1]; rfl
  have hS : ∀ i, 0 ≤ i → i < n' → s_int (s_rep m 4) i = 4 := fun i i0 i1 => repR_int i0 (by omega)
  have hD : ∀ i, 0 ≤ i → i < n' → -(2 * pi') ≤ s_int (irow .i64 dv) i ∧ s_int (irow .i64 dv) i ≤ 2 * pi' := fun i i0 i1 => irow_int hdv i0 (by omega)
  have cm : s_confOk n' pi' e' g' fi' (List.map (fun r => (r.getD 0 AV.gone).toI) (List.map (fun n => [AV.int IntKind.i64 n]) qs)) = true := cfR_ok hm
  have ca := actsR_ok hf
  have hil : ((irow .i64 dv).length : Int) = n' := by rw [← hmn, ← devs_len hdv]; rfl
  have tail : ∀ z z2 : ByteArray, (s_clean z = z ∧ 0 < z.size ∧ z.size ≤ 1000) → (s_clean z2 = z2 ∧ 0 < z2.size ∧ z2.size ≤ 1000) → ∀ em : Int → Int → ByteArray → ByteArray,
      (∀ (fm dst : Int) (base : ByteArray), 0 ≤ dst → dst ≤ 1000000 → base.size ≤ 1000000 → s_emitR (s_hit n' k' a' fm dst) f' t' ro base (em fm dst base)) →
      ∀ rows : List (List AV), rows = s_gIterS ⟨n', dir, n', pi', s_wayL n' (s_last n' (s_rem a 6) dir) dir (n' - 2).toNat, s_rep m 4, irow .i64 dv, em⟩ (s_gI3 n' (s_rem a 6) z z2) (s_gI4 n' (s_rem a 6)) 0 (n' - 2).toNat →
      (z = z2 ∨ (k' ≠ 2 ∧ (k' = 1 → a' ≠ s_rem (s_rem a 6 + -1) n' ∧ a' ≠ s_rem (s_rem (s_rem a 6 + 1) n' + 1) n'))) →
      rows.length = n'.toNat ∧ s_prOk k' a' t' ro (s_rem a 6) (s_rem (s_rem a 6 + 1) n') z z2 rows := fun z z2 hz hz2 em he rows hr hx =>
    run_pairs hn hn2 hd ⟨h6.1, by omega⟩ (Int.le_refl _) hS hD hr he hz.2.2 hz2.2.2 hz.1 hz2.1 hx
  have len : ∀ (z z2 : ByteArray) (em : Int → Int → ByteArray → ByteArray) (rows : List (List AV)), rows = s_gIterS ⟨n', dir, n', pi', s_wayL n' (s_last n' (s_rem a 6) dir) dir (n' - 2).toNat, s_rep m 4, irow .i64 dv, em⟩ (s_gI3 n' (s_rem a 6) z z2) (s_gI4 n' (s_rem a 6)) 0 (n' - 2).toNat → (rows.length : Int) = n' := fun z z2 em rows hr => by
    obtain ⟨P, _, _, _, _, _, _, _, _, hl, _⟩ := run_two hn hn2 hd ⟨h6.1, by omega⟩ hS hD hr
    omega
  have hq := rem_lt (s_rem a 6 + 1) (show 0 < n' by omega)
  simp only [chk_iff, hyp_iff, repR_take, rep_len, irow_take hdv, devs_len hdv, Int.sub_self, hpair, hql]
  refine ⟨⟨⟨hn, hn2, trivial, by omega, by omega, h6.1, by omega⟩, fun p ep => ⟨⟨hn, hn2, by omega⟩, fun _ _ _ _ _ _ rows hr => br_intro (fun c => ⟨by have := of_decide_eq_true c; omega, br_intro (fun _ => ⟨by have := of_decide_eq_true c; omega, fun _ _ => ⟨by omega, fun z hz => ⟨by omega, fun z2 hz2 => ?_⟩⟩⟩) fun _ => ⟨by omega, fun z hz => ⟨by omega, fun z2 hz2 => ?_⟩⟩⟩) fun _ => ⟨by omega, fun z hz => ⟨by omega, fun z2 hz2 => ?_⟩⟩⟩⟩,
    fun rows2 _ _ => ⟨⟨hn, hn2, trivial, by omega, by omega, h6.1, by omega⟩, fun p ep => ⟨⟨hn, hn2, by omega⟩, fun _ _ _ _ _ _ rows hr => br_intro (fun c => ⟨by have := of_decide_eq_true c; omega, br_intro (fun _ => ⟨by have := of_decide_eq_true c; omega, fun _ _ => ⟨by omega, fun z hz => ⟨by omega, fun z2 hz2 => ?_⟩⟩⟩) fun _ => ⟨by omega, fun z hz => ⟨by omega, fun z2 hz2 => ?_⟩⟩⟩) fun _ => ⟨by omega, fun z hz => ⟨by omega, fun z2 hz2 => ?_⟩⟩⟩⟩⟩
  all_goals
    subst ep
    refine ⟨by omega, by omega, ⟨cm, ca, ro0, by omega, by omega, by omega, hd, hmn, hil, Int.le_refl _, by omega, h6.1, by omega, by omega, by omega⟩, fun em hem rows hr => ?_⟩
    have hlen := len z z2 em rows hr
    have leaf : (z = z2 ∨ (k' ≠ 2 ∧ (k' = 1 → a' ≠ s_rem (s_rem a 6 + -1) n' ∧ a' ≠ s_rem (s_rem (s_rem a 6 + 1) n' + 1) n'))) → (0 ≤ (rows.length : Int)) ∧ rows.length ≤ 12 ∧ s_prOk k' a' t' ro (s_rem a 6) (s_rem (s_rem a 6 + 1) n') z z2 rows := fun h =>
      ⟨by omega, by omega, (tail z z2 hz hz2 em hem rows hr h).2⟩
    refine br_intro (fun c => (bne_no hlen c).elim) fun _ => ⟨⟨by omega, by omega, by omega, by omega, by omega, by omega⟩, br_intro (fun c1 => br_intro (fun c2 => br_intro (fun _ => trivial) fun c3 => br_intro (fun _ => trivial) fun c4 => ?_) fun c2 => ?_) fun c1 => ⟨⟨by omega, by omega, by omega, by omega, by omega, by omega⟩, br_intro (fun c2 => br_intro (fun _ => trivial) fun c3 => br_intro (fun c4 => br_intro (fun _ => trivial) fun c5 => ?_) fun c4 => ?_) fun c2 => ?_⟩⟩
    · obtain ⟨l1, l2, l3⟩ := leaf (.inr ⟨beq_eq_false_iff_ne.1 c3, fun h => absurd h (beq_eq_false_iff_ne.1 c4)⟩)
      exact ⟨⟨by omega, l1, l2, trivial, trivial, l3⟩, trivial⟩
    · obtain ⟨l1, l2, l3⟩ := leaf (.inl (toL_eq c2))
      exact ⟨⟨by omega, l1, l2, trivial, trivial, l3⟩, trivial⟩
    · obtain ⟨l1, l2, l3⟩ := leaf (.inr ⟨beq_eq_false_iff_ne.1 c3, fun _ => ⟨beq_eq_false_iff_ne.1 c1, beq_eq_false_iff_ne.1 c5⟩⟩)
      exact ⟨⟨by omega, l1, l2, trivial, trivial, l3⟩, trivial⟩
    · obtain ⟨l1, l2, l3⟩ := leaf (.inr ⟨beq_eq_false_iff_ne.1 c3, fun h => absurd h (beq_eq_false_iff_ne.1 c4)⟩)
      exact ⟨⟨by omega, l1, l2, trivial, trivial, l3⟩, trivial⟩
    · obtain ⟨l1, l2, l3⟩ := leaf (.inl (toL_eq c2))
      exact ⟨⟨by omega, l1, l2, trivial, trivial, l3⟩, trivial⟩
end Go.Proofs.YtiemjcchlfbglaaGreatE
