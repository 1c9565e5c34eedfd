/- SpreadLink: specs of its loop. -/
import Derived.Test.YtiemjcchlfbglaaBcE
import Derived.KernelRfl
namespace Go.Proofs.YtiemjcchlfbglaaE
open Go
set_option linter.unusedVariables false

def s_two (z a b : ByteArray) : Prop := (a = z ∧ (b = z ∨ b = ⟨#[]⟩)) ∨ (a = ⟨#[]⟩ ∧ b = z)
def lLnk : LW := fun vals h Q => match vals, h with
  | [.ptr 0 0, .row nwa [.str, .str, .str, .int .i64] ra, .row nwb [.str, .str, .str, .int .i64] rb, .int .i64 up, .int .i64 dn, .int .i64 i], [.box [.int .i64 n, .int .i64 pi, .int .i64 e, .int .i64 g, .int .i64 fi, .row nl [.int .i64] ps, .int .i64 fk, .int .i64 fa, .int .i64 ff, .int .i64 ft, .nils, .nils, .int .i64 ro, .int .i64 sl, .int .i64 dir, .sl 1 0 1, .sl 2 0 m1, .sl 3 0 m2], .arr 0 9 [.str] [[.str z]], .arr 0 3 [.int .i64] sts, .arr 0 3 [.int .i64] dvs] => Hyp (0 ≤ i ∧ i ≤ n ∧ n ≤ 100 ∧ (ra.length : Int) = n ∧ (rb.length : Int) = n ∧ 0 < z.size ∧ 0 ≤ up ∧ 0 ≤ dn ∧ up + dn ≤ i ∧ ∀ j : Int, 0 ≤ j → j < n → s_two z (s_outI ra j) (s_outI rb j)) ∧
      ∀ u d : Int, 0 ≤ u ∧ 0 ≤ d ∧ u + d ≤ n → Q (.exit 0) [.ptr 0 0, .int .i64 u, .int .i64 d] [.box [.int .i64 n, .int .i64 pi, .int .i64 e, .int .i64 g, .int .i64 fi, .row nl [.int .i64] ps, .int .i64 fk, .int .i64 fa, .int .i64 ff, .int .i64 ft, .nils, .nils, .int .i64 ro, .int .i64 sl, .int .i64 dir, .sl 1 0 1, .sl 2 0 m1, .sl 3 0 m2], .arr 0 9 [.str] [[.str z]], .arr 0 3 [.int .i64] sts, .arr 0 3 [.int .i64] dvs]
  | _, _ => False
def W5L : Sp := ⟨V4.fn, [(5, 12, lLnk)]⟩
end Go.Proofs.YtiemjcchlfbglaaE
/- What path mode says of functions, printed by a program of this session; the kernel holds each. -/
namespace Go.Proofs.YtiemjcchlfbglaaE
open Go
set_option maxRecDepth 100000
set_option linter.unusedVariables false
theorem nfLnk1 (n pi e g fi fk fa ff ft ro sl dir i : Int) (nl nwa nwb : Bool) (ps ra rb sts dvs : List (List AV)) (m1 m2 : Nat) (z : ByteArray) (up dn : Int) (Q : Ex → List AV → List AObj → Prop) : lpBody Try.prog H0 V4 6 6 5 12 [.ptr 0 0, .row nwa [.str, .str, .str, .int .i64] ra, .row nwb [.str, .str, .str, .int .i64] rb, .int .i64 up, .int .i64 dn, .int .i64 i] [.box [.int .i64 n, .int .i64 pi, .int .i64 e, .int .i64 g, .int .i64 fi, .row nl [.int .i64] ps, .int .i64 fk, .int .i64 fa, .int .i64 ff, .int .i64 ft, .nils, .nils, .int .i64 ro, .int .i64 sl, .int .i64 dir, .sl 1 0 1, .sl 2 0 m1, .sl 3 0 m2], .arr 0 9 [.str] [[.str z]], .arr 0 3 [.int .i64] sts, .arr 0 3 [.int .i64] dvs] Q = (
br (decide (i < n))
 (chk ((0 : Int) ≤ i ∧ i < (↑ra.length : Int)) (br (!((ra.getD i.toNat []).getD (2 : Nat) AV.gone).toS.toList == z.toList)
  (chk ((0 : Int) ≤ i ∧ i < (↑ra.length : Int)) (br (!((ra.getD i.toNat []).getD (2 : Nat) AV.gone).toS.toList == (ByteArray.mk #[]).toList)
   (Q (Ex.ret) ([AV.bool false]) ([]))
   (chk ((0 : Int) ≤ i ∧ i < (↑rb.length : Int)) (br (!((rb.getD i.toNat []).getD (2 : Nat) AV.gone).toS.toList == z.toList)
    (chk ((0 : Int) ≤ i ∧ i < (↑rb.length : Int)) (br (!((rb.getD i.toNat []).getD (2 : Nat) AV.gone).toS.toList == (ByteArray.mk #[]).toList)
     (Q (Ex.ret) ([AV.bool false]) ([]))
     (chk ((0 : Int) ≤ i ∧ i < (↑ra.length : Int)) (br (((ra.getD i.toNat []).getD (2 : Nat) AV.gone).toS.toList == (ByteArray.mk #[]).toList)
      (chk ((0 : Int) ≤ i ∧ i < (↑rb.length : Int)) (br (((rb.getD i.toNat []).getD (2 : Nat) AV.gone).toS.toList == (ByteArray.mk #[]).toList)
       (Q (Ex.ret) ([AV.bool false]) ([]))
       (chk ((0 : Int) ≤ i ∧ i < (↑ra.length : Int)) (br (((ra.getD i.toNat []).getD (2 : Nat) AV.gone).toS.toList == (ByteArray.mk #[]).toList)
        (chk ((0 : Int) ≤ i ∧ i < (↑rb.length : Int)) (br (((rb.getD i.toNat []).getD (2 : Nat) AV.gone).toS.toList == (ByteArray.mk #[]).toList)
         (Q (Ex.nrm) ([AV.ptr (0 : Nat) (0 : Nat), AV.row nwa [K.str, K.str, K.str, K.int IntKind.i64] ra,
  AV.row nwb [K.str, K.str, K.str, K.int IntKind.i64] rb, AV.int IntKind.i64 (IntKind.i64.wrap (up + (1 : Int))),
  AV.int IntKind.i64 (IntKind.i64.wrap (dn + (1 : Int))), AV.int IntKind.i64 (IntKind.i64.wrap (i + (1 : Int)))]) ([AObj.box
    [AV.int IntKind.i64 n, AV.int IntKind.i64 pi, AV.int IntKind.i64 e, AV.int IntKind.i64 g, AV.int IntKind.i64 fi,
      AV.row nl [K.int IntKind.i64] ps, AV.int IntKind.i64 fk, AV.int IntKind.i64 fa, AV.int IntKind.i64 ff,
      AV.int IntKind.i64 ft, AV.nils, AV.nils, AV.int IntKind.i64 ro, AV.int IntKind.i64 sl, AV.int IntKind.i64 dir,
      AV.sl (1 : Nat) (0 : Nat) (1 : Nat), AV.sl (2 : Nat) (0 : Nat) m1, AV.sl (3 : Nat) (0 : Nat) m2],
  AObj.arr (0 : Nat) (9 : Nat) [K.str] [[AV.str z]], AObj.arr (0 : Nat) (3 : Nat) [K.int IntKind.i64] sts,
  AObj.arr (0 : Nat) (3 : Nat) [K.int IntKind.i64] dvs]))
         (Q (Ex.nrm) ([AV.ptr (0 : Nat) (0 : Nat), AV.row nwa [K.str, K.str, K.str, K.int IntKind.i64] ra,
  AV.row nwb [K.str, K.str, K.str, K.int IntKind.i64] rb, AV.int IntKind.i64 (IntKind.i64.wrap (up + (1 : Int))),
  AV.int IntKind.i64 dn, AV.int IntKind.i64 (IntKind.i64.wrap (i + (1 : Int)))]) ([AObj.box
    [AV.int IntKind.i64 n, AV.int IntKind.i64 pi, AV.int IntKind.i64 e, AV.int IntKind.i64 g, AV.int IntKind.i64 fi,
      AV.row nl [K.int IntKind.i64] ps, AV.int IntKind.i64 fk, AV.int IntKind.i64 fa, AV.int IntKind.i64 ff,
      AV.int IntKind.i64 ft, AV.nils, AV.nils, AV.int IntKind.i64 ro, AV.int IntKind.i64 sl, AV.int IntKind.i64 dir,
      AV.sl (1 : Nat) (0 : Nat) (1 : Nat), AV.sl (2 : Nat) (0 : Nat) m1, AV.sl (3 : Nat) (0 : Nat) m2],
  AObj.arr (0 : Nat) (9 : Nat) [K.str] [[AV.str z]], AObj.arr (0 : Nat) (3 : Nat) [K.int IntKind.i64] sts,
  AObj.arr (0 : Nat) (3 : Nat) [K.int IntKind.i64] dvs]))))
        (chk ((0 : Int) ≤ i ∧ i < (↑rb.length : Int)) (br (((rb.getD i.toNat []).getD (2 : Nat) AV.gone).toS.toList == (ByteArray.mk #[]).toList)
         (Q (Ex.nrm) ([AV.ptr (0 : Nat) (0 : Nat), AV.row nwa [K.str, K.str, K.str, K.int IntKind.i64] ra,
  AV.row nwb [K.str, K.str, K.str, K.int IntKind.i64] rb, AV.int IntKind.i64 up,
  AV.int IntKind.i64 (IntKind.i64.wrap (dn + (1 : Int))), AV.int IntKind.i64 (IntKind.i64.wrap (i + (1 : Int)))]) ([AObj.box
    [AV.int IntKind.i64 n, AV.int IntKind.i64 pi, AV.int IntKind.i64 e, AV.int IntKind.i64 g, AV.int IntKind.i64 fi,
      AV.row nl [K.int IntKind.i64] ps, AV.int IntKind.i64 fk, AV.int IntKind.i64 fa, AV.int IntKind.i64 ff,
      AV.int IntKind.i64 ft, AV.nils, AV.nils, AV.int IntKind.i64 ro, AV.int IntKind.i64 sl, AV.int IntKind.i64 dir,
      AV.sl (1 : Nat) (0 : Nat) (1 : Nat), AV.sl (2 : Nat) (0 : Nat) m1, AV.sl (3 : Nat) (0 : Nat) m2],
  AObj.arr (0 : Nat) (9 : Nat) [K.str] [[AV.str z]], AObj.arr (0 : Nat) (3 : Nat) [K.int IntKind.i64] sts,
  AObj.arr (0 : Nat) (3 : Nat) [K.int IntKind.i64] dvs]))
         (Q (Ex.nrm) ([AV.ptr (0 : Nat) (0 : Nat), AV.row nwa [K.str, K.str, K.str, K.int IntKind.i64] ra,
  AV.row nwb [K.str, K.str, K.str, K.int IntKind.i64] rb, AV.int IntKind.i64 up, AV.int IntKind.i64 dn,
  AV.int IntKind.i64 (IntKind.i64.wrap (i + (1 : Int)))]) ([AObj.box
    [AV.int IntKind.i64 n, AV.int IntKind.i64 pi, AV.int IntKind.i64 e, AV.int IntKind.i64 g, AV.int IntKind.i64 fi,
      AV.row nl [K.int IntKind.i64] ps, AV.int IntKind.i64 fk, AV.int IntKind.i64 fa, AV.int IntKind.i64 ff,
      AV.int IntKind.i64 ft, AV.nils, AV.nils, AV.int IntKind.i64 ro, AV.int IntKind.i64 sl, AV.int IntKind.i64 dir,
      AV.sl (1 : Nat) (0 : Nat) (1 : Nat), AV.sl (2 : Nat) (0 : Nat) m1, AV.sl (3 : Nat) (0 : Nat) m2],
  AObj.arr (0 : Nat) (9 : Nat) [K.str] [[AV.str z]], AObj.arr (0 : Nat) (3 : Nat) [K.int IntKind.i64] sts,
  AObj.arr (0 : Nat) (3 : Nat) [K.int IntKind.i64] dvs]))))))))
      (chk ((0 : Int) ≤ i ∧ i < (↑ra.length : Int)) (br (((ra.getD i.toNat []).getD (2 : Nat) AV.gone).toS.toList == (ByteArray.mk #[]).toList)
       (chk ((0 : Int) ≤ i ∧ i < (↑rb.length : Int)) (br (((rb.getD i.toNat []).getD (2 : Nat) AV.gone).toS.toList == (ByteArray.mk #[]).toList)
        (Q (Ex.nrm) ([AV.ptr (0 : Nat) (0 : Nat), AV.row nwa [K.str, K.str, K.str, K.int IntKind.i64] ra,
  AV.row nwb [K.str, K.str, K.str, K.int IntKind.i64] rb, AV.int IntKind.i64 (IntKind.i64.wrap (up + (1 : Int))),
  AV.int IntKind.i64 (IntKind.i64.wrap (dn + (1 : Int))), AV.int IntKind.i64 (IntKind.i64.wrap (i + (1 : Int)))]) ([AObj.box
    [AV.int IntKind.i64 n, AV.int IntKind.i64 pi, AV.int IntKind.i64 e, AV.int IntKind.i64 g, AV.int IntKind.i64 fi,
      AV.row nl [K.int IntKind.i64] ps, AV.int IntKind.i64 fk, AV.int IntKind.i64 fa, AV.int IntKind.i64 ff,
      AV.int IntKind.i64 ft, AV.nils, AV.nils, AV.int IntKind.i64 ro, AV.int IntKind.i64 sl, AV.int IntKind.i64 dir,
      AV.sl (1 : Nat) (0 : Nat) (1 : Nat), AV.sl (2 : Nat) (0 : Nat) m1, AV.sl (3 : Nat) (0 : Nat) m2],
  AObj.arr (0 : Nat) (9 : Nat) [K.str] [[AV.str z]], AObj.arr (0 : Nat) (3 : Nat) [K.int IntKind.i64] sts,
  AObj.arr (0 : Nat) (3 : Nat) [K.int IntKind.i64] dvs]))
        (Q (Ex.nrm) ([AV.ptr (0 : Nat) (0 : Nat), AV.row nwa [K.str, K.str, K.str, K.int IntKind.i64] ra,
  AV.row nwb [K.str, K.str, K.str, K.int IntKind.i64] rb, AV.int IntKind.i64 (IntKind.i64.wrap (up + (1 : Int))),
  AV.int IntKind.i64 dn, AV.int IntKind.i64 (IntKind.i64.wrap (i + (1 : Int)))]) ([AObj.box
    [AV.int IntKind.i64 n, AV.int IntKind.i64 pi, AV.int IntKind.i64 e, AV.int IntKind.i64 g, AV.int IntKind.i64 fi,
      AV.row nl [K.int IntKind.i64] ps, AV.int IntKind.i64 fk, AV.int IntKind.i64 fa, AV.int IntKind.i64 ff,
      AV.int IntKind.i64 ft, AV.nils, AV.nils, AV.int IntKind.i64 ro, AV.int IntKind.i64 sl, AV.int IntKind.i64 dir,
      AV.sl (1 : Nat) (0 : Nat) (1 : Nat), AV.sl (2 : Nat) (0 : Nat) m1, AV.sl (3 : Nat) (0 : Nat) m2],
  AObj.arr (0 : Nat) (9 : Nat) [K.str] [[AV.str z]], AObj.arr (0 : Nat) (3 : Nat) [K.int IntKind.i64] sts,
  AObj.arr (0 : Nat) (3 : Nat) [K.int IntKind.i64] dvs]))))
       (chk ((0 : Int) ≤ i ∧ i < (↑rb.length : Int)) (br (((rb.getD i.toNat []).getD (2 : Nat) AV.gone).toS.toList == (ByteArray.mk #[]).toList)
        (Q (Ex.nrm) ([AV.ptr (0 : Nat) (0 : Nat), AV.row nwa [K.str, K.str, K.str, K.int IntKind.i64] ra,
  AV.row nwb [K.str, K.str, K.str, K.int IntKind.i64] rb, AV.int IntKind.i64 up,
  AV.int IntKind.i64 (IntKind.i64.wrap (dn + (1 : Int))), AV.int IntKind.i64 (IntKind.i64.wrap (i + (1 : Int)))]) ([AObj.box
    [AV.int IntKind.i64 n, AV.int IntKind.i64 pi, AV.int IntKind.i64 e, AV.int IntKind.i64 g, AV.int IntKind.i64 fi,
      AV.row nl [K.int IntKind.i64] ps, AV.int IntKind.i64 fk, AV.int IntKind.i64 fa, AV.int IntKind.i64 ff,
      AV.int IntKind.i64 ft, AV.nils, AV.nils, AV.int IntKind.i64 ro, AV.int IntKind.i64 sl, AV.int IntKind.i64 dir,
      AV.sl (1 : Nat) (0 : Nat) (1 : Nat), AV.sl (2 : Nat) (0 : Nat) m1, AV.sl (3 : Nat) (0 : Nat) m2],
  AObj.arr (0 : Nat) (9 : Nat) [K.str] [[AV.str z]], AObj.arr (0 : Nat) (3 : Nat) [K.int IntKind.i64] sts,
  AObj.arr (0 : Nat) (3 : Nat) [K.int IntKind.i64] dvs]))
        (Q (Ex.nrm) ([AV.ptr (0 : Nat) (0 : Nat), AV.row nwa [K.str, K.str, K.str, K.int IntKind.i64] ra,
  AV.row nwb [K.str, K.str, K.str, K.int IntKind.i64] rb, AV.int IntKind.i64 up, AV.int IntKind.i64 dn,
  AV.int IntKind.i64 (IntKind.i64.wrap (i + (1 : Int)))]) ([AObj.box
    [AV.int IntKind.i64 n, AV.int IntKind.i64 pi, AV.int IntKind.i64 e, AV.int IntKind.i64 g, AV.int IntKind.i64 fi,
      AV.row nl [K.int IntKind.i64] ps, AV.int IntKind.i64 fk, AV.int IntKind.i64 fa, AV.int IntKind.i64 ff,
      AV.int IntKind.i64 ft, AV.nils, AV.nils, AV.int IntKind.i64 ro, AV.int IntKind.i64 sl, AV.int IntKind.i64 dir,
      AV.sl (1 : Nat) (0 : Nat) (1 : Nat), AV.sl (2 : Nat) (0 : Nat) m1, AV.sl (3 : Nat) (0 : Nat) m2],
  AObj.arr (0 : Nat) (9 : Nat) [K.str] [[AV.str z]], AObj.arr (0 : Nat) (3 : Nat) [K.int IntKind.i64] sts,
  AObj.arr (0 : Nat) (3 : Nat) [K.int IntKind.i64] dvs]))))))))))
    (chk ((0 : Int) ≤ i ∧ i < (↑ra.length : Int)) (br (((ra.getD i.toNat []).getD (2 : Nat) AV.gone).toS.toList == (ByteArray.mk #[]).toList)
     (chk ((0 : Int) ≤ i ∧ i < (↑rb.length : Int)) (br (((rb.getD i.toNat []).getD (2 : Nat) AV.gone).toS.toList == (ByteArray.mk #[]).toList)
      (Q (Ex.ret) ([AV.bool false]) ([]))
      (chk ((0 : Int) ≤ i ∧ i < (↑ra.length : Int)) (br (((ra.getD i.toNat []).getD (2 : Nat) AV.gone).toS.toList == (ByteArray.mk #[]).toList)
       (chk ((0 : Int) ≤ i ∧ i < (↑rb.length : Int)) (br (((rb.getD i.toNat []).getD (2 : Nat) AV.gone).toS.toList == (ByteArray.mk #[]).toList)
        (Q (Ex.nrm) ([AV.ptr (0 : Nat) (0 : Nat), AV.row nwa [K.str, K.str, K.str, K.int IntKind.i64] ra,
  AV.row nwb [K.str, K.str, K.str, K.int IntKind.i64] rb, AV.int IntKind.i64 (IntKind.i64.wrap (up + (1 : Int))),
  AV.int IntKind.i64 (IntKind.i64.wrap (dn + (1 : Int))), AV.int IntKind.i64 (IntKind.i64.wrap (i + (1 : Int)))]) ([AObj.box
    [AV.int IntKind.i64 n, AV.int IntKind.i64 pi, AV.int IntKind.i64 e, AV.int IntKind.i64 g, AV.int IntKind.i64 fi,
      AV.row nl [K.int IntKind.i64] ps, AV.int IntKind.i64 fk, AV.int IntKind.i64 fa, AV.int IntKind.i64 ff,
      AV.int IntKind.i64 ft, AV.nils, AV.nils, AV.int IntKind.i64 ro, AV.int IntKind.i64 sl, AV.int IntKind.i64 dir,
      AV.sl (1 : Nat) (0 : Nat) (1 : Nat), AV.sl (2 : Nat) (0 : Nat) m1, AV.sl (3 : Nat) (0 : Nat) m2],
  AObj.arr (0 : Nat) (9 : Nat) [K.str] [[AV.str z]], AObj.arr (0 : Nat) (3 : Nat) [K.int IntKind.i64] sts,
  AObj.arr (0 : Nat) (3 : Nat) [K.int IntKind.i64] dvs]))
        (Q (Ex.nrm) ([AV.ptr (0 : Nat) (0 : Nat), AV.row nwa [K.str, K.str, K.str, K.int IntKind.i64] ra,
  AV.row nwb [K.str, K.str, K.str, K.int IntKind.i64] rb, AV.int IntKind.i64 (IntKind.i64.wrap (up + (1 : Int))),
  AV.int IntKind.i64 dn, AV.int IntKind.i64 (IntKind.i64.wrap (i + (1 : Int)))]) ([AObj.box
    [AV.int IntKind.i64 n, AV.int IntKind.i64 pi, AV.int IntKind.i64 e, AV.int IntKind.i64 g, AV.int IntKind.i64 fi,
      AV.row nl [K.int IntKind.i64] ps, AV.int IntKind.i64 fk, AV.int IntKind.i64 fa, AV.int IntKind.i64 ff,
      AV.int IntKind.i64 ft, AV.nils, AV.nils, AV.int IntKind.i64 ro, AV.int IntKind.i64 sl, AV.int IntKind.i64 dir,
      AV.sl (1 : Nat) (0 : Nat) (1 : Nat), AV.sl (2 : Nat) (0 : Nat) m1, AV.sl (3 : Nat) (0 : Nat) m2],
  AObj.arr (0 : Nat) (9 : Nat) [K.str] [[AV.str z]], AObj.arr (0 : Nat) (3 : Nat) [K.int IntKind.i64] sts,
  AObj.arr (0 : Nat) (3 : Nat) [K.int IntKind.i64] dvs]))))
       (chk ((0 : Int) ≤ i ∧ i < (↑rb.length : Int)) (br (((rb.getD i.toNat []).getD (2 : Nat) AV.gone).toS.toList == (ByteArray.mk #[]).toList)
        (Q (Ex.nrm) ([AV.ptr (0 : Nat) (0 : Nat), AV.row nwa [K.str, K.str, K.str, K.int IntKind.i64] ra,
  AV.row nwb [K.str, K.str, K.str, K.int IntKind.i64] rb, AV.int IntKind.i64 up,
  AV.int IntKind.i64 (IntKind.i64.wrap (dn + (1 : Int))), AV.int IntKind.i64 (IntKind.i64.wrap (i + (1 : Int)))]) ([AObj.box
    [AV.int IntKind.i64 n, AV.int IntKind.i64 pi, AV.int IntKind.i64 e, AV.int IntKind.i64 g, AV.int IntKind.i64 fi,
      AV.row nl [K.int IntKind.i64] ps, AV.int IntKind.i64 fk, AV.int IntKind.i64 fa, AV.int IntKind.i64 ff,
      AV.int IntKind.i64 ft, AV.nils, AV.nils, AV.int IntKind.i64 ro, AV.int IntKind.i64 sl, AV.int IntKind.i64 dir,
      AV.sl (1 : Nat) (0 : Nat) (1 : Nat), AV.sl (2 : Nat) (0 : Nat) m1, AV.sl (3 : Nat) (0 : Nat) m2],
  AObj.arr (0 : Nat) (9 : Nat) [K.str] [[AV.str z]], AObj.arr (0 : Nat) (3 : Nat) [K.int IntKind.i64] sts,
  AObj.arr (0 : Nat) (3 : Nat) [K.int IntKind.i64] dvs]))
        (Q (Ex.nrm) ([AV.ptr (0 : Nat) (0 : Nat), AV.row nwa [K.str, K.str, K.str, K.int IntKind.i64] ra,
  AV.row nwb [K.str, K.str, K.str, K.int IntKind.i64] rb, AV.int IntKind.i64 up, AV.int IntKind.i64 dn,
  AV.int IntKind.i64 (IntKind.i64.wrap (i + (1 : Int)))]) ([AObj.box
    [AV.int IntKind.i64 n, AV.int IntKind.i64 pi, AV.int IntKind.i64 e, AV.int IntKind.i64 g, AV.int IntKind.i64 fi,
      AV.row nl [K.int IntKind.i64] ps, AV.int IntKind.i64 fk, AV.int IntKind.i64 fa, AV.int IntKind.i64 ff,
      AV.int IntKind.i64 ft, AV.nils, AV.nils, AV.int IntKind.i64 ro, AV.int IntKind.i64 sl, AV.int IntKind.i64 dir,
      AV.sl (1 : Nat) (0 : Nat) (1 : Nat), AV.sl (2 : Nat) (0 : Nat) m1, AV.sl (3 : Nat) (0 : Nat) m2],
  AObj.arr (0 : Nat) (9 : Nat) [K.str] [[AV.str z]], AObj.arr (0 : Nat) (3 : Nat) [K.int IntKind.i64] sts,
  AObj.arr (0 : Nat) (3 : Nat) [K.int IntKind.i64] dvs]))))))))
     (chk ((0 : Int) ≤ i ∧ i < (↑ra.length : Int)) (br (((ra.getD i.toNat []).getD (2 : Nat) AV.gone).toS.toList == (ByteArray.mk #[]).toList)
      (chk ((0 : Int) ≤ i ∧ i < (↑rb.length : Int)) (br (((rb.getD i.toNat []).getD (2 : Nat) AV.gone).toS.toList == (ByteArray.mk #[]).toList)
       (Q (Ex.nrm) ([AV.ptr (0 : Nat) (0 : Nat), AV.row nwa [K.str, K.str, K.str, K.int IntKind.i64] ra,
  AV.row nwb [K.str, K.str, K.str, K.int IntKind.i64] rb, AV.int IntKind.i64 (IntKind.i64.wrap (up + (1 : Int))),
  AV.int IntKind.i64 (IntKind.i64.wrap (dn + (1 : Int))), AV.int IntKind.i64 (IntKind.i64.wrap (i + (1 : Int)))]) ([AObj.box
    [AV.int IntKind.i64 n, AV.int IntKind.i64 pi, AV.int IntKind.i64 e, AV.int IntKind.i64 g, AV.int IntKind.i64 fi,
      AV.row nl [K.int IntKind.i64] ps, AV.int IntKind.i64 fk, AV.int IntKind.i64 fa, AV.int IntKind.i64 ff,
      AV.int IntKind.i64 ft, AV.nils, AV.nils, AV.int IntKind.i64 ro, AV.int IntKind.i64 sl, AV.int IntKind.i64 dir,
      AV.sl (1 : Nat) (0 : Nat) (1 : Nat), AV.sl (2 : Nat) (0 : Nat) m1, AV.sl (3 : Nat) (0 : Nat) m2],
  AObj.arr (0 : Nat) (9 : Nat) [K.str] [[AV.str z]], AObj.arr (0 : Nat) (3 : Nat) [K.int IntKind.i64] sts,
  AObj.arr (0 : Nat) (3 : Nat) [K.int IntKind.i64] dvs]))
       (Q (Ex.nrm) ([AV.ptr (0 : Nat) (0 : Nat), AV.row nwa [K.str, K.str, K.str, K.int IntKind.i64] ra,
  AV.row nwb [K.str, K.str, K.str, K.int IntKind.i64] rb, AV.int IntKind.i64 (IntKind.i64.wrap (up + (1 : Int))),
  AV.int IntKind.i64 dn, AV.int IntKind.i64 (IntKind.i64.wrap (i + (1 : Int)))]) ([AObj.box
    [AV.int IntKind.i64 n, AV.int IntKind.i64 pi, AV.int IntKind.i64 e, AV.int IntKind.i64 g, AV.int IntKind.i64 fi,
      AV.row nl [K.int IntKind.i64] ps, AV.int IntKind.i64 fk, AV.int IntKind.i64 fa, AV.int IntKind.i64 ff,
      AV.int IntKind.i64 ft, AV.nils, AV.nils, AV.int IntKind.i64 ro, AV.int IntKind.i64 sl, AV.int IntKind.i64 dir,
      AV.sl (1 : Nat) (0 : Nat) (1 : Nat), AV.sl (2 : Nat) (0 : Nat) m1, AV.sl (3 : Nat) (0 : Nat) m2],
  AObj.arr (0 : Nat) (9 : Nat) [K.str] [[AV.str z]], AObj.arr (0 : Nat) (3 : Nat) [K.int IntKind.i64] sts,
  AObj.arr (0 : Nat) (3 : Nat) [K.int IntKind.i64] dvs]))))
      (chk ((0 : Int) ≤ i ∧ i < (↑rb.length : Int)) (br (((rb.getD i.toNat []).getD (2 : Nat) AV.gone).toS.toList == (ByteArray.mk #[]).toList)
       (Q (Ex.nrm) ([AV.ptr (0 : Nat) (0 : Nat), AV.row nwa [K.str, K.str, K.str, K.int IntKind.i64] ra,
  AV.row nwb [K.str, K.str, K.str, K.int IntKind.i64] rb, AV.int IntKind.i64 up,
  AV.int IntKind.i64 (IntKind.i64.wrap (dn + (1 : Int))), AV.int IntKind.i64 (IntKind.i64.wrap (i + (1 : Int)))]) ([AObj.box
    [AV.int IntKind.i64 n, AV.int IntKind.i64 pi, AV.int IntKind.i64 e, AV.int IntKind.i64 g, AV.int IntKind.i64 fi,
      AV.row nl [K.int IntKind.i64] ps, AV.int IntKind.i64 fk, AV.int IntKind.i64 fa, AV.int IntKind.i64 ff,
      AV.int IntKind.i64 ft, AV.nils, AV.nils, AV.int IntKind.i64 ro, AV.int IntKind.i64 sl, AV.int IntKind.i64 dir,
      AV.sl (1 : Nat) (0 : Nat) (1 : Nat), AV.sl (2 : Nat) (0 : Nat) m1, AV.sl (3 : Nat) (0 : Nat) m2],
  AObj.arr (0 : Nat) (9 : Nat) [K.str] [[AV.str z]], AObj.arr (0 : Nat) (3 : Nat) [K.int IntKind.i64] sts,
  AObj.arr (0 : Nat) (3 : Nat) [K.int IntKind.i64] dvs]))
       (Q (Ex.nrm) ([AV.ptr (0 : Nat) (0 : Nat), AV.row nwa [K.str, K.str, K.str, K.int IntKind.i64] ra,
  AV.row nwb [K.str, K.str, K.str, K.int IntKind.i64] rb, AV.int IntKind.i64 up, AV.int IntKind.i64 dn,
  AV.int IntKind.i64 (IntKind.i64.wrap (i + (1 : Int)))]) ([AObj.box
    [AV.int IntKind.i64 n, AV.int IntKind.i64 pi, AV.int IntKind.i64 e, AV.int IntKind.i64 g, AV.int IntKind.i64 fi,
      AV.row nl [K.int IntKind.i64] ps, AV.int IntKind.i64 fk, AV.int IntKind.i64 fa, AV.int IntKind.i64 ff,
      AV.int IntKind.i64 ft, AV.nils, AV.nils, AV.int IntKind.i64 ro, AV.int IntKind.i64 sl, AV.int IntKind.i64 dir,
      AV.sl (1 : Nat) (0 : Nat) (1 : Nat), AV.sl (2 : Nat) (0 : Nat) m1, AV.sl (3 : Nat) (0 : Nat) m2],
  AObj.arr (0 : Nat) (9 : Nat) [K.str] [[AV.str z]], AObj.arr (0 : Nat) (3 : Nat) [K.int IntKind.i64] sts,
  AObj.arr (0 : Nat) (3 : Nat) [K.int IntKind.i64] dvs]))))))))))))
  (chk ((0 : Int) ≤ i ∧ i < (↑rb.length : Int)) (br (!((rb.getD i.toNat []).getD (2 : Nat) AV.gone).toS.toList == z.toList)
   (chk ((0 : Int) ≤ i ∧ i < (↑rb.length : Int)) (br (!((rb.getD i.toNat []).getD (2 : Nat) AV.gone).toS.toList == (ByteArray.mk #[]).toList)
    (Q (Ex.ret) ([AV.bool false]) ([]))
    (chk ((0 : Int) ≤ i ∧ i < (↑ra.length : Int)) (br (((ra.getD i.toNat []).getD (2 : Nat) AV.gone).toS.toList == (ByteArray.mk #[]).toList)
     (chk ((0 : Int) ≤ i ∧ i < (↑rb.length : Int)) (br (((rb.getD i.toNat []).getD (2 : Nat) AV.gone).toS.toList == (ByteArray.mk #[]).toList)
      (Q (Ex.ret) ([AV.bool false]) ([]))
      (chk ((0 : Int) ≤ i ∧ i < (↑ra.length : Int)) (br (((ra.getD i.toNat []).getD (2 : Nat) AV.gone).toS.toList == (ByteArray.mk #[]).toList)
       (chk ((0 : Int) ≤ i ∧ i < (↑rb.length : Int)) (br (((rb.getD i.toNat []).getD (2 : Nat) AV.gone).toS.toList == (ByteArray.mk #[]).toList)
        (Q (Ex.nrm) ([AV.ptr (0 : Nat) (0 : Nat), AV.row nwa [K.str, K.str, K.str, K.int IntKind.i64] ra,
  AV.row nwb [K.str, K.str, K.str, K.int IntKind.i64] rb, AV.int IntKind.i64 (IntKind.i64.wrap (up + (1 : Int))),
  AV.int IntKind.i64 (IntKind.i64.wrap (dn + (1 : Int))), AV.int IntKind.i64 (IntKind.i64.wrap (i + (1 : Int)))]) ([AObj.box
    [AV.int IntKind.i64 n, AV.int IntKind.i64 pi, AV.int IntKind.i64 e, AV.int IntKind.i64 g, AV.int IntKind.i64 fi,
      AV.row nl [K.int IntKind.i64] ps, AV.int IntKind.i64 fk, AV.int IntKind.i64 fa, AV.int IntKind.i64 ff,
      AV.int IntKind.i64 ft, AV.nils, AV.nils, AV.int IntKind.i64 ro, AV.int IntKind.i64 sl, AV.int IntKind.i64 dir,
      AV.sl (1 : Nat) (0 : Nat) (1 : Nat), AV.sl (2 : Nat) (0 : Nat) m1, AV.sl (3 : Nat) (0 : Nat) m2],
  AObj.arr (0 : Nat) (9 : Nat) [K.str] [[AV.str z]], AObj.arr (0 : Nat) (3 : Nat) [K.int IntKind.i64] sts,
  AObj.arr (0 : Nat) (3 : Nat) [K.int IntKind.i64] dvs]))
        (Q (Ex.nrm) ([AV.ptr (0 : Nat) (0 : Nat), AV.row nwa [K.str, K.str, K.str, K.int IntKind.i64] ra,
  AV.row nwb [K.str, K.str, K.str, K.int IntKind.i64] rb, AV.int IntKind.i64 (IntKind.i64.wrap (up + (1 : Int))),
  AV.int IntKind.i64 dn, AV.int IntKind.i64 (IntKind.i64.wrap (i + (1 : Int)))]) ([AObj.box
    [AV.int IntKind.i64 n, AV.int IntKind.i64 pi, AV.int IntKind.i64 e, AV.int IntKind.i64 g, AV.int IntKind.i64 fi,
      AV.row nl [K.int IntKind.i64] ps, AV.int IntKind.i64 fk, AV.int IntKind.i64 fa, AV.int IntKind.i64 ff,
      AV.int IntKind.i64 ft, AV.nils, AV.nils, AV.int IntKind.i64 ro, AV.int IntKind.i64 sl, AV.int IntKind.i64 dir,
      AV.sl (1 : Nat) (0 : Nat) (1 : Nat), AV.sl (2 : Nat) (0 : Nat) m1, AV.sl (3 : Nat) (0 : Nat) m2],
  AObj.arr (0 : Nat) (9 : Nat) [K.str] [[AV.str z]], AObj.arr (0 : Nat) (3 : Nat) [K.int IntKind.i64] sts,
  AObj.arr (0 : Nat) (3 : Nat) [K.int IntKind.i64] dvs]))))
       (chk ((0 : Int) ≤ i ∧ i < (↑rb.length : Int)) (br (((rb.getD i.toNat []).getD (2 : Nat) AV.gone).toS.toList == (ByteArray.mk #[]).toList)
        (Q (Ex.nrm) ([AV.ptr (0 : Nat) (0 : Nat), AV.row nwa [K.str, K.str, K.str, K.int IntKind.i64] ra,
  AV.row nwb [K.str, K.str, K.str, K.int IntKind.i64] rb, AV.int IntKind.i64 up,
  AV.int IntKind.i64 (IntKind.i64.wrap (dn + (1 : Int))), AV.int IntKind.i64 (IntKind.i64.wrap (i + (1 : Int)))]) ([AObj.box
    [AV.int IntKind.i64 n, AV.int IntKind.i64 pi, AV.int IntKind.i64 e, AV.int IntKind.i64 g, AV.int IntKind.i64 fi,
      AV.row nl [K.int IntKind.i64] ps, AV.int IntKind.i64 fk, AV.int IntKind.i64 fa, AV.int IntKind.i64 ff,
      AV.int IntKind.i64 ft, AV.nils, AV.nils, AV.int IntKind.i64 ro, AV.int IntKind.i64 sl, AV.int IntKind.i64 dir,
      AV.sl (1 : Nat) (0 : Nat) (1 : Nat), AV.sl (2 : Nat) (0 : Nat) m1, AV.sl (3 : Nat) (0 : Nat) m2],
  AObj.arr (0 : Nat) (9 : Nat) [K.str] [[AV.str z]], AObj.arr (0 : Nat) (3 : Nat) [K.int IntKind.i64] sts,
  AObj.arr (0 : Nat) (3 : Nat) [K.int IntKind.i64] dvs]))
        (Q (Ex.nrm) ([AV.ptr (0 : Nat) (0 : Nat), AV.row nwa [K.str, K.str, K.str, K.int IntKind.i64] ra,
  AV.row nwb [K.str, K.str, K.str, K.int IntKind.i64] rb, AV.int IntKind.i64 up, AV.int IntKind.i64 dn,
  AV.int IntKind.i64 (IntKind.i64.wrap (i + (1 : Int)))]) ([AObj.box
    [AV.int IntKind.i64 n, AV.int IntKind.i64 pi, AV.int IntKind.i64 e, AV.int IntKind.i64 g, AV.int IntKind.i64 fi,
      AV.row nl [K.int IntKind.i64] ps, AV.int IntKind.i64 fk, AV.int IntKind.i64 fa, AV.int IntKind.i64 ff,
      AV.int IntKind.i64 ft, AV.nils, AV.nils, AV.int IntKind.i64 ro, AV.int IntKind.i64 sl, AV.int IntKind.i64 dir,
      AV.sl (1 : Nat) (0 : Nat) (1 : Nat), AV.sl (2 : Nat) (0 : Nat) m1, AV.sl (3 : Nat) (0 : Nat) m2],
  AObj.arr (0 : Nat) (9 : Nat) [K.str] [[AV.str z]], AObj.arr (0 : Nat) (3 : Nat) [K.int IntKind.i64] sts,
  AObj.arr (0 : Nat) (3 : Nat) [K.int IntKind.i64] dvs]))))))))
     (chk ((0 : Int) ≤ i ∧ i < (↑ra.length : Int)) (br (((ra.getD i.toNat []).getD (2 : Nat) AV.gone).toS.toList == (ByteArray.mk #[]).toList)
      (chk ((0 : Int) ≤ i ∧ i < (↑rb.length : Int)) (br (((rb.getD i.toNat []).getD (2 : Nat) AV.gone).toS.toList == (ByteArray.mk #[]).toList)
       (Q (Ex.nrm) ([AV.ptr (0 : Nat) (0 : Nat), AV.row nwa [K.str, K.str, K.str, K.int IntKind.i64] ra,
  AV.row nwb [K.str, K.str, K.str, K.int IntKind.i64] rb, AV.int IntKind.i64 (IntKind.i64.wrap (up + (1 : Int))),
  AV.int IntKind.i64 (IntKind.i64.wrap (dn + (1 : Int))), AV.int IntKind.i64 (IntKind.i64.wrap (i + (1 : Int)))]) ([AObj.box
    [AV.int IntKind.i64 n, AV.int IntKind.i64 pi, AV.int IntKind.i64 e, AV.int IntKind.i64 g, AV.int IntKind.i64 fi,
      AV.row nl [K.int IntKind.i64] ps, AV.int IntKind.i64 fk, AV.int IntKind.i64 fa, AV.int IntKind.i64 ff,
      AV.int IntKind.i64 ft, AV.nils, AV.nils, AV.int IntKind.i64 ro, AV.int IntKind.i64 sl, AV.int IntKind.i64 dir,
      AV.sl (1 : Nat) (0 : Nat) (1 : Nat), AV.sl (2 : Nat) (0 : Nat) m1, AV.sl (3 : Nat) (0 : Nat) m2],
  AObj.arr (0 : Nat) (9 : Nat) [K.str] [[AV.str z]], AObj.arr (0 : Nat) (3 : Nat) [K.int IntKind.i64] sts,
  AObj.arr (0 : Nat) (3 : Nat) [K.int IntKind.i64] dvs]))
       (Q (Ex.nrm) ([AV.ptr (0 : Nat) (0 : Nat), AV.row nwa [K.str, K.str, K.str, K.int IntKind.i64] ra,
  AV.row nwb [K.str, K.str, K.str, K.int IntKind.i64] rb, AV.int IntKind.i64 (IntKind.i64.wrap (up + (1 : Int))),
  AV.int IntKind.i64 dn, AV.int IntKind.i64 (IntKind.i64.wrap (i + (1 : Int)))]) ([AObj.box
    [AV.int IntKind.i64 n, AV.int IntKind.i64 pi, AV.int IntKind.i64 e, AV.int IntKind.i64 g, AV.int IntKind.i64 fi,
      AV.row nl [K.int IntKind.i64] ps, AV.int IntKind.i64 fk, AV.int IntKind.i64 fa, AV.int IntKind.i64 ff,
      AV.int IntKind.i64 ft, AV.nils, AV.nils, AV.int IntKind.i64 ro, AV.int IntKind.i64 sl, AV.int IntKind.i64 dir,
      AV.sl (1 : Nat) (0 : Nat) (1 : Nat), AV.sl (2 : Nat) (0 : Nat) m1, AV.sl (3 : Nat) (0 : Nat) m2],
  AObj.arr (0 : Nat) (9 : Nat) [K.str] [[AV.str z]], AObj.arr (0 : Nat) (3 : Nat) [K.int IntKind.i64] sts,
  AObj.arr (0 : Nat) (3 : Nat) [K.int IntKind.i64] dvs]))))
      (chk ((0 : Int) ≤ i ∧ i < (↑rb.length : Int)) (br (((rb.getD i.toNat []).getD (2 : Nat) AV.gone).toS.toList == (ByteArray.mk #[]).toList)
       (Q (Ex.nrm) ([AV.ptr (0 : Nat) (0 : Nat), AV.row nwa [K.str, K.str, K.str, K.int IntKind.i64] ra,
  AV.row nwb [K.str, K.str, K.str, K.int IntKind.i64] rb, AV.int IntKind.i64 up,
  AV.int IntKind.i64 (IntKind.i64.wrap (dn + (1 : Int))), AV.int IntKind.i64 (IntKind.i64.wrap (i + (1 : Int)))]) ([AObj.box
    [AV.int IntKind.i64 n, AV.int IntKind.i64 pi, AV.int IntKind.i64 e, AV.int IntKind.i64 g, AV.int IntKind.i64 fi,
      AV.row nl [K.int IntKind.i64] ps, AV.int IntKind.i64 fk, AV.int IntKind.i64 fa, AV.int IntKind.i64 ff,
      AV.int IntKind.i64 ft, AV.nils, AV.nils, AV.int IntKind.i64 ro, AV.int IntKind.i64 sl, AV.int IntKind.i64 dir,
      AV.sl (1 : Nat) (0 : Nat) (1 : Nat), AV.sl (2 : Nat) (0 : Nat) m1, AV.sl (3 : Nat) (0 : Nat) m2],
  AObj.arr (0 : Nat) (9 : Nat) [K.str] [[AV.str z]], AObj.arr (0 : Nat) (3 : Nat) [K.int IntKind.i64] sts,
  AObj.arr (0 : Nat) (3 : Nat) [K.int IntKind.i64] dvs]))
       (Q (Ex.nrm) ([AV.ptr (0 : Nat) (0 : Nat), AV.row nwa [K.str, K.str, K.str, K.int IntKind.i64] ra,
  AV.row nwb [K.str, K.str, K.str, K.int IntKind.i64] rb, AV.int IntKind.i64 up, AV.int IntKind.i64 dn,
  AV.int IntKind.i64 (IntKind.i64.wrap (i + (1 : Int)))]) ([AObj.box
    [AV.int IntKind.i64 n, AV.int IntKind.i64 pi, AV.int IntKind.i64 e, AV.int IntKind.i64 g, AV.int IntKind.i64 fi,
      AV.row nl [K.int IntKind.i64] ps, AV.int IntKind.i64 fk, AV.int IntKind.i64 fa, AV.int IntKind.i64 ff,
      AV.int IntKind.i64 ft, AV.nils, AV.nils, AV.int IntKind.i64 ro, AV.int IntKind.i64 sl, AV.int IntKind.i64 dir,
      AV.sl (1 : Nat) (0 : Nat) (1 : Nat), AV.sl (2 : Nat) (0 : Nat) m1, AV.sl (3 : Nat) (0 : Nat) m2],
  AObj.arr (0 : Nat) (9 : Nat) [K.str] [[AV.str z]], AObj.arr (0 : Nat) (3 : Nat) [K.int IntKind.i64] sts,
  AObj.arr (0 : Nat) (3 : Nat) [K.int IntKind.i64] dvs]))))))))))
   (chk ((0 : Int) ≤ i ∧ i < (↑ra.length : Int)) (br (((ra.getD i.toNat []).getD (2 : Nat) AV.gone).toS.toList == (ByteArray.mk #[]).toList)
    (chk ((0 : Int) ≤ i ∧ i < (↑rb.length : Int)) (br (((rb.getD i.toNat []).getD (2 : Nat) AV.gone).toS.toList == (ByteArray.mk #[]).toList)
     (Q (Ex.ret) ([AV.bool false]) ([]))
     (chk ((0 : Int) ≤ i ∧ i < (↑ra.length : Int)) (br (((ra.getD i.toNat []).getD (2 : Nat) AV.gone).toS.toList == (ByteArray.mk #[]).toList)
      (chk ((0 : Int) ≤ i ∧ i < (↑rb.length : Int)) (br (((rb.getD i.toNat []).getD (2 : Nat) AV.gone).toS.toList == (ByteArray.mk #[]).toList)
       (Q (Ex.nrm) ([AV.ptr (0 : Nat) (0 : Nat), AV.row nwa [K.str, K.str, K.str, K.int IntKind.i64] ra,
  AV.row nwb [K.str, K.str, K.str, K.int IntKind.i64] rb, AV.int IntKind.i64 (IntKind.i64.wrap (up + (1 : Int))),
  AV.int IntKind.i64 (IntKind.i64.wrap (dn + (1 : Int))), AV.int IntKind.i64 (IntKind.i64.wrap (i + (1 : Int)))]) ([AObj.box
    [AV.int IntKind.i64 n, AV.int IntKind.i64 pi, AV.int IntKind.i64 e, AV.int IntKind.i64 g, AV.int IntKind.i64 fi,
      AV.row nl [K.int IntKind.i64] ps, AV.int IntKind.i64 fk, AV.int IntKind.i64 fa, AV.int IntKind.i64 ff,
      AV.int IntKind.i64 ft, AV.nils, AV.nils, AV.int IntKind.i64 ro, AV.int IntKind.i64 sl, AV.int IntKind.i64 dir,
      AV.sl (1 : Nat) (0 : Nat) (1 : Nat), AV.sl (2 : Nat) (0 : Nat) m1, AV.sl (3 : Nat) (0 : Nat) m2],
  AObj.arr (0 : Nat) (9 : Nat) [K.str] [[AV.str z]], AObj.arr (0 : Nat) (3 : Nat) [K.int IntKind.i64] sts,
  AObj.arr (0 : Nat) (3 : Nat) [K.int IntKind.i64] dvs]))
       (Q (Ex.nrm) ([AV.ptr (0 : Nat) (0 : Nat), AV.row nwa [K.str, K.str, K.str, K.int IntKind.i64] ra,
  AV.row nwb [K.str, K.str, K.str, K.int IntKind.i64] rb, AV.int IntKind.i64 (IntKind.i64.wrap (up + (1 : Int))),
  AV.int IntKind.i64 dn, AV.int IntKind.i64 (IntKind.i64.wrap (i + (1 : Int)))]) ([AObj.box
    [AV.int IntKind.i64 n, AV.int IntKind.i64 pi, AV.int IntKind.i64 e, AV.int IntKind.i64 g, AV.int IntKind.i64 fi,
      AV.row nl [K.int IntKind.i64] ps, AV.int IntKind.i64 fk, AV.int IntKind.i64 fa, AV.int IntKind.i64 ff,
      AV.int IntKind.i64 ft, AV.nils, AV.nils, AV.int IntKind.i64 ro, AV.int IntKind.i64 sl, AV.int IntKind.i64 dir,
      AV.sl (1 : Nat) (0 : Nat) (1 : Nat), AV.sl (2 : Nat) (0 : Nat) m1, AV.sl (3 : Nat) (0 : Nat) m2],
  AObj.arr (0 : Nat) (9 : Nat) [K.str] [[AV.str z]], AObj.arr (0 : Nat) (3 : Nat) [K.int IntKind.i64] sts,
  AObj.arr (0 : Nat) (3 : Nat) [K.int IntKind.i64] dvs]))))
      (chk ((0 : Int) ≤ i ∧ i < (↑rb.length : Int)) (br (((rb.getD i.toNat []).getD (2 : Nat) AV.gone).toS.toList == (ByteArray.mk #[]).toList)
       (Q (Ex.nrm) ([AV.ptr (0 : Nat) (0 : Nat), AV.row nwa [K.str, K.str, K.str, K.int IntKind.i64] ra,
  AV.row nwb [K.str, K.str, K.str, K.int IntKind.i64] rb, AV.int IntKind.i64 up,
  AV.int IntKind.i64 (IntKind.i64.wrap (dn + (1 : Int))), AV.int IntKind.i64 (IntKind.i64.wrap (i + (1 : Int)))]) ([AObj.box
    [AV.int IntKind.i64 n, AV.int IntKind.i64 pi, AV.int IntKind.i64 e, AV.int IntKind.i64 g, AV.int IntKind.i64 fi,
      AV.row nl [K.int IntKind.i64] ps, AV.int IntKind.i64 fk, AV.int IntKind.i64 fa, AV.int IntKind.i64 ff,
      AV.int IntKind.i64 ft, AV.nils, AV.nils, AV.int IntKind.i64 ro, AV.int IntKind.i64 sl, AV.int IntKind.i64 dir,
      AV.sl (1 : Nat) (0 : Nat) (1 : Nat), AV.sl (2 : Nat) (0 : Nat) m1, AV.sl (3 : Nat) (0 : Nat) m2],
  AObj.arr (0 : Nat) (9 : Nat) [K.str] [[AV.str z]], AObj.arr (0 : Nat) (3 : Nat) [K.int IntKind.i64] sts,
  AObj.arr (0 : Nat) (3 : Nat) [K.int IntKind.i64] dvs]))
       (Q (Ex.nrm) ([AV.ptr (0 : Nat) (0 : Nat), AV.row nwa [K.str, K.str, K.str, K.int IntKind.i64] ra,
  AV.row nwb [K.str, K.str, K.str, K.int IntKind.i64] rb, AV.int IntKind.i64 up, AV.int IntKind.i64 dn,
  AV.int IntKind.i64 (IntKind.i64.wrap (i + (1 : Int)))]) ([AObj.box
    [AV.int IntKind.i64 n, AV.int IntKind.i64 pi, AV.int IntKind.i64 e, AV.int IntKind.i64 g, AV.int IntKind.i64 fi,
      AV.row nl [K.int IntKind.i64] ps, AV.int IntKind.i64 fk, AV.int IntKind.i64 fa, AV.int IntKind.i64 ff,
      AV.int IntKind.i64 ft, AV.nils, AV.nils, AV.int IntKind.i64 ro, AV.int IntKind.i64 sl, AV.int IntKind.i64 dir,
      AV.sl (1 : Nat) (0 : Nat) (1 : Nat), AV.sl (2 : Nat) (0 : Nat) m1, AV.sl (3 : Nat) (0 : Nat) m2],
  AObj.arr (0 : Nat) (9 : Nat) [K.str] [[AV.str z]], AObj.arr (0 : Nat) (3 : Nat) [K.int IntKind.i64] sts,
  AObj.arr (0 : Nat) (3 : Nat) [K.int IntKind.i64] dvs]))))))))
    (chk ((0 : Int) ≤ i ∧ i < (↑ra.length : Int)) (br (((ra.getD i.toNat []).getD (2 : Nat) AV.gone).toS.toList == (ByteArray.mk #[]).toList)
     (chk ((0 : Int) ≤ i ∧ i < (↑rb.length : Int)) (br (((rb.getD i.toNat []).getD (2 : Nat) AV.gone).toS.toList == (ByteArray.mk #[]).toList)
      (Q (Ex.nrm) ([AV.ptr (0 : Nat) (0 : Nat), AV.row nwa [K.str, K.str, K.str, K.int IntKind.i64] ra,
  AV.row nwb [K.str, K.str, K.str, K.int IntKind.i64] rb, AV.int IntKind.i64 (IntKind.i64.wrap (up + (1 : Int))),
  AV.int IntKind.i64 (IntKind.i64.wrap (dn + (1 : Int))), AV.int IntKind.i64 (IntKind.i64.wrap (i + (1 : Int)))]) ([AObj.box
    [AV.int IntKind.i64 n, AV.int IntKind.i64 pi, AV.int IntKind.i64 e, AV.int IntKind.i64 g, AV.int IntKind.i64 fi,
      AV.row nl [K.int IntKind.i64] ps, AV.int IntKind.i64 fk, AV.int IntKind.i64 fa, AV.int IntKind.i64 ff,
      AV.int IntKind.i64 ft, AV.nils, AV.nils, AV.int IntKind.i64 ro, AV.int IntKind.i64 sl, AV.int IntKind.i64 dir,
      AV.sl (1 : Nat) (0 : Nat) (1 : Nat), AV.sl (2 : Nat) (0 : Nat) m1, AV.sl (3 : Nat) (0 : Nat) m2],
  AObj.arr (0 : Nat) (9 : Nat) [K.str] [[AV.str z]], AObj.arr (0 : Nat) (3 : Nat) [K.int IntKind.i64] sts,
  AObj.arr (0 : Nat) (3 : Nat) [K.int IntKind.i64] dvs]))
      (Q (Ex.nrm) ([AV.ptr (0 : Nat) (0 : Nat), AV.row nwa [K.str, K.str, K.str, K.int IntKind.i64] ra,
  AV.row nwb [K.str, K.str, K.str, K.int IntKind.i64] rb, AV.int IntKind.i64 (IntKind.i64.wrap (up + (1 : Int))),
  AV.int IntKind.i64 dn, AV.int IntKind.i64 (IntKind.i64.wrap (i + (1 : Int)))]) ([AObj.box
    [AV.int IntKind.i64 n, AV.int IntKind.i64 pi, AV.int IntKind.i64 e, AV.int IntKind.i64 g, AV.int IntKind.i64 fi,
      AV.row nl [K.int IntKind.i64] ps, AV.int IntKind.i64 fk, AV.int IntKind.i64 fa, AV.int IntKind.i64 ff,
      AV.int IntKind.i64 ft, AV.nils, AV.nils, AV.int IntKind.i64 ro, AV.int IntKind.i64 sl, AV.int IntKind.i64 dir,
      AV.sl (1 : Nat) (0 : Nat) (1 : Nat), AV.sl (2 : Nat) (0 : Nat) m1, AV.sl (3 : Nat) (0 : Nat) m2],
  AObj.arr (0 : Nat) (9 : Nat) [K.str] [[AV.str z]], AObj.arr (0 : Nat) (3 : Nat) [K.int IntKind.i64] sts,
  AObj.arr (0 : Nat) (3 : Nat) [K.int IntKind.i64] dvs]))))
     (chk ((0 : Int) ≤ i ∧ i < (↑rb.length : Int)) (br (((rb.getD i.toNat []).getD (2 : Nat) AV.gone).toS.toList == (ByteArray.mk #[]).toList)
      (Q (Ex.nrm) ([AV.ptr (0 : Nat) (0 : Nat), AV.row nwa [K.str, K.str, K.str, K.int IntKind.i64] ra,
  AV.row nwb [K.str, K.str, K.str, K.int IntKind.i64] rb, AV.int IntKind.i64 up,
  AV.int IntKind.i64 (IntKind.i64.wrap (dn + (1 : Int))), AV.int IntKind.i64 (IntKind.i64.wrap (i + (1 : Int)))]) ([AObj.box
    [AV.int IntKind.i64 n, AV.int IntKind.i64 pi, AV.int IntKind.i64 e, AV.int IntKind.i64 g, AV.int IntKind.i64 fi,
      AV.row nl [K.int IntKind.i64] ps, AV.int IntKind.i64 fk, AV.int IntKind.i64 fa, AV.int IntKind.i64 ff,
      AV.int IntKind.i64 ft, AV.nils, AV.nils, AV.int IntKind.i64 ro, AV.int IntKind.i64 sl, AV.int IntKind.i64 dir,
      AV.sl (1 : Nat) (0 : Nat) (1 : Nat), AV.sl (2 : Nat) (0 : Nat) m1, AV.sl (3 : Nat) (0 : Nat) m2],
  AObj.arr (0 : Nat) (9 : Nat) [K.str] [[AV.str z]], AObj.arr (0 : Nat) (3 : Nat) [K.int IntKind.i64] sts,
  AObj.arr (0 : Nat) (3 : Nat) [K.int IntKind.i64] dvs]))
      (Q (Ex.nrm) ([AV.ptr (0 : Nat) (0 : Nat), AV.row nwa [K.str, K.str, K.str, K.int IntKind.i64] ra,
  AV.row nwb [K.str, K.str, K.str, K.int IntKind.i64] rb, AV.int IntKind.i64 up, AV.int IntKind.i64 dn,
  AV.int IntKind.i64 (IntKind.i64.wrap (i + (1 : Int)))]) ([AObj.box
    [AV.int IntKind.i64 n, AV.int IntKind.i64 pi, AV.int IntKind.i64 e, AV.int IntKind.i64 g, AV.int IntKind.i64 fi,
      AV.row nl [K.int IntKind.i64] ps, AV.int IntKind.i64 fk, AV.int IntKind.i64 fa, AV.int IntKind.i64 ff,
      AV.int IntKind.i64 ft, AV.nils, AV.nils, AV.int IntKind.i64 ro, AV.int IntKind.i64 sl, AV.int IntKind.i64 dir,
      AV.sl (1 : Nat) (0 : Nat) (1 : Nat), AV.sl (2 : Nat) (0 : Nat) m1, AV.sl (3 : Nat) (0 : Nat) m2],
  AObj.arr (0 : Nat) (9 : Nat) [K.str] [[AV.str z]], AObj.arr (0 : Nat) (3 : Nat) [K.int IntKind.i64] sts,
  AObj.arr (0 : Nat) (3 : Nat) [K.int IntKind.i64] dvs]))))))))))))
 (Q (Ex.exit (0 : Nat)) ([AV.ptr (0 : Nat) (0 : Nat), AV.int IntKind.i64 up, AV.int IntKind.i64 dn]) ([AObj.box
    [AV.int IntKind.i64 n, AV.int IntKind.i64 pi, AV.int IntKind.i64 e, AV.int IntKind.i64 g, AV.int IntKind.i64 fi,
      AV.row nl [K.int IntKind.i64] ps, AV.int IntKind.i64 fk, AV.int IntKind.i64 fa, AV.int IntKind.i64 ff,
      AV.int IntKind.i64 ft, AV.nils, AV.nils, AV.int IntKind.i64 ro, AV.int IntKind.i64 sl, AV.int IntKind.i64 dir,
      AV.sl (1 : Nat) (0 : Nat) (1 : Nat), AV.sl (2 : Nat) (0 : Nat) m1, AV.sl (3 : Nat) (0 : Nat) m2],
  AObj.arr (0 : Nat) (9 : Nat) [K.str] [[AV.str z]], AObj.arr (0 : Nat) (3 : Nat) [K.int IntKind.i64] sts,
  AObj.arr (0 : Nat) (3 : Nat) [K.int IntKind.i64] dvs]))) := by kernel_rfl
theorem nfLnk (n pi e g fi : Int) (nl : Bool) (ps : List (List AV)) (slot at_ : Int) (k r sl pk pv : Int) (nl2 : Bool) (ec : List (List AV)) (nl3 : Bool) (ns : List (List AV)) (Q : AV × List AObj → Prop) : inlW Try.prog H0 W5L 6 (InO Try.prog H0 W5L 6 6) 5 [cf n pi e g fi nl ps, .int .i64 slot, .int .i64 at_, .agg [.int .i64 k, .int .i64 r, .int .i64 sl, .int .i64 pk, .int .i64 pv, .row nl2 [.int .i64, .int .i64] ec], .row nl3 [.int .i64] ns] [] Q = (
(∀ (n100 : Int),
(∀ (pi101 : Int),
(∀ (e102 : Int),
(∀ (g103 : Int),
(∀ (fi104 : Int),
(∀ (nl105 : Bool),
(∀ (qs106 : List Int),
(∀ (m107 : Nat),
(∀ (z108 : ByteArray),
((s_made n100 pi101 e102 g103 fi104 qs106 ∧
  (↑m107 : Int) = n100 ∧ s_clean z108 = z108 ∧ (0 : Nat) < z108.size ∧ z108.size ≤ (1000 : Nat)) →
chk ((0 : Int) < IntKind.i64.wrap ((2 : Int) * n100) ∧ IntKind.i64.wrap ((2 : Int) * n100) < (9223372036854775808 : Int)) (chk ((0 : Nat) + m107 ≤ (s_rep m107 (4 : Int)).length) (chk ((0 : Nat) + m107 ≤ (s_rep m107 (0 : Int)).length) (((Hyp (s_confOk n100 pi101 e102 g103 fi104
      (List.map (fun r => (r.getD (0 : Nat) AV.gone).toI) (List.map (fun n => [AV.int IntKind.i64 n]) qs106)) =
    true ∧
  ([] : List (List AV)) = [] ∧
    s_runOk
        { n := n100, dir := (1 : Int), kind := (2 : Int), at_ := s_rem at_ (IntKind.i64.wrap ((2 : Int) * n100)),
          fr := (0 : Int), to_ := (1000 : Int), ro := (0 : Int), sl := s_rem slot n100, pi := pi101,
          sts := List.take m107 (List.drop (0 : Nat) (s_rep m107 (4 : Int))),
          dvs := List.take m107 (List.drop (0 : Nat) (s_rep m107 (0 : Int))) } ∧
      z108.size ≤ (1000000 : Nat))) ∧
((∀ (rows114 : List (List AV)),
((rows114 =
  s_runS
    { n := n100, dir := (1 : Int), kind := (2 : Int), at_ := s_rem at_ (IntKind.i64.wrap ((2 : Int) * n100)),
      fr := (0 : Int), to_ := (1000 : Int), ro := (0 : Int), sl := s_rem slot n100, pi := pi101,
      sts := List.take m107 (List.drop (0 : Nat) (s_rep m107 (4 : Int))),
      dvs := List.take m107 (List.drop (0 : Nat) (s_rep m107 (0 : Int))) }
    z108 (n100 - (1 : Int)).toNat) →
chk ((0 : Nat) + m107 ≤ (s_rep m107 (4 : Int)).length) (chk ((0 : Nat) + m107 ≤ (s_rep m107 (0 : Int)).length) (((Hyp (s_confOk n100 pi101 e102 g103 fi104
      (List.map (fun r => (r.getD (0 : Nat) AV.gone).toI) (List.map (fun n => [AV.int IntKind.i64 n]) qs106)) =
    true ∧
  ([] : List (List AV)) = [] ∧
    s_runOk
        { n := n100, dir := (-1 : Int), kind := (2 : Int), at_ := s_rem at_ (IntKind.i64.wrap ((2 : Int) * n100)),
          fr := (0 : Int), to_ := (1000 : Int), ro := (0 : Int), sl := s_rem slot n100, pi := pi101,
          sts := List.take m107 (List.drop (0 : Nat) (s_rep m107 (4 : Int))),
          dvs := List.take m107 (List.drop (0 : Nat) (s_rep m107 (0 : Int))) } ∧
      z108.size ≤ (1000000 : Nat))) ∧
((∀ (rows119 : List (List AV)),
((rows119 =
  s_runS
    { n := n100, dir := (-1 : Int), kind := (2 : Int), at_ := s_rem at_ (IntKind.i64.wrap ((2 : Int) * n100)),
      fr := (0 : Int), to_ := (1000 : Int), ro := (0 : Int), sl := s_rem slot n100, pi := pi101,
      sts := List.take m107 (List.drop (0 : Nat) (s_rep m107 (4 : Int))),
      dvs := List.take m107 (List.drop (0 : Nat) (s_rep m107 (0 : Int))) }
    z108 (n100 - (1 : Int)).toNat) →
br ((↑rows114.length : Int) != n100)
 (Q ((AV.bool false, [])))
 (br ((↑rows119.length : Int) != n100)
  (Q ((AV.bool false, [])))
  (((Hyp ((0 : Int) ≤ (0 : Int) ∧
  (0 : Int) ≤ n100 ∧
    n100 ≤ (100 : Int) ∧
      (↑rows114.length : Int) = n100 ∧
        (↑rows119.length : Int) = n100 ∧
          (0 : Nat) < z108.size ∧
            (0 : Int) ≤ (0 : Int) ∧
              (0 : Int) ≤ (0 : Int) ∧
                (0 : Int) ≤ (0 : Int) ∧
                  ∀ (j : Int), (0 : Int) ≤ j → j < n100 → s_two z108 (s_outI rows114 j) (s_outI rows119 j))) ∧
  ((∀ (u124 : Int),
  (∀ (d125 : Int),
  (((0 : Int) ≤ u124 ∧ (0 : Int) ≤ d125 ∧ u124 + d125 ≤ n100) →
  Q ((AV.bool (decide (IntKind.i64.wrap (u124 + d125) ≤ n100)), []))))))))))))))))))))))))))))))))) := by kernel_rfl
end Go.Proofs.YtiemjcchlfbglaaE
/- SpreadLink: the plain law. -/
namespace Go.Proofs.YtiemjcchlfbglaaE
open Go
set_option linter.unusedVariables false
set_option linter.unusedSimpArgs false
set_option maxRecDepth 100000

theorem loop_eq (bs : ByteArray) : ∀ (k i : Nat) (r : List UInt8), bs.size - i = k → ByteArray.toList.loop bs i r = r.reverse ++ bs.data.toList.drop i
  | 0, i, r, h => by
    rw [ByteArray.toList.loop, if_neg (by omega), List.drop_eq_nil_of_le (by rw [Array.length_toList]; show bs.size ≤ i; omega), List.append_nil]
  | k + 1, i, r, h => by
    have hi : i < bs.size := by omega
    rw [ByteArray.toList.loop, if_pos hi, loop_eq bs k (i + 1) _ (by omega), drop_cons hi]
    have : bs.get! i = bs[i] := by
      simp only [ByteArray.get!]
      exact getElem!_pos bs.data i hi
    rw [this]
    simp
theorem toList_data (bs : ByteArray) : bs.toList = bs.data.toList := by
  unfold ByteArray.toList
  rw [loop_eq bs _ 0 [] rfl]
  rfl
theorem ne_toList {a b : ByteArray} (h : a ≠ b) : (a.toList == b.toList) = false := by
  rw [beq_eq_false_iff_ne, toList_data, toList_data]
  intro e
  apply h
  apply ByteArray.ext
  exact Array.toList_inj.1 e
theorem okLLnk : OkLp Try.prog H0 5 12 lLnk := by
  refine okLp_of (U := 6) (k := 6) okV4 lLnk (fun vals _ => match vals with | [_, _, _, _, _, .int _ i] => (100 - i).toNat | _ => 0) fun vals h Q hl => ?_
  unfold lLnk at hl
  split at hl
  · rename_i nwa ra nwb rb up dn i n pi e g fi nl ps fk fa ff ft ro sl dir m1 m2 z sts dvs
    obtain ⟨⟨h0, h1, h2, la, lb, hz, hu, hd, hud, h3⟩, hq⟩ := hyp_iff.1 hl
    refine to (nfLnk1 ..) (br_intro (fun c => ?_) fun c => hq up dn ⟨hu, hd, by omega⟩)
    have c := of_decide_eq_true c
    have wi : IntKind.i64.wrap (i + 1) = i + 1 := wr (by omega) (by omega)
    have wu : IntKind.i64.wrap (up + 1) = up + 1 := wr (by omega) (by omega)
    have wd : IntKind.i64.wrap (dn + 1) = dn + 1 := wr (by omega) (by omega)
    have nxt : (100 - (i + 1)).toNat < (100 - i).toNat := by omega
    have ba : 0 ≤ i ∧ i < (ra.length : Int) := ⟨h0, by omega⟩
    have bb : 0 ≤ i ∧ i < (rb.length : Int) := ⟨h0, by omega⟩
    have hne : z ≠ ByteArray.mk #[] := fun e => by rw [e] at hz; exact absurd hz (by decide)
    have t1 : (z.toList == z.toList) = true := by simp
    have t2 : (z.toList == (ByteArray.mk #[]).toList) = false := ne_toList hne
    have t3 : ((ByteArray.mk #[]).toList == z.toList) = false := ne_toList (Ne.symm hne)
    have t4 : ((ByteArray.mk #[]).toList == (ByteArray.mk #[]).toList) = true := by simp
    have nx : ∀ u d : Int, 0 ≤ u → 0 ≤ d → u + d ≤ i + 1 → lLnk [.ptr 0 0, .row nwa [.str, .str, .str, .int .i64] ra, .row nwb [.str, .str, .str, .int .i64] rb, .int .i64 u, .int .i64 d, .int .i64 (i + 1)] [.box [.int .i64 n, .int .i64 pi, .int .i64 e, .int .i64 g, .int .i64 fi, .row nl [.int .i64] ps, .int .i64 fk, .int .i64 fa, .int .i64 ff, .int .i64 ft, .nils, .nils, .int .i64 ro, .int .i64 sl, .int .i64 dir, .sl 1 0 1, .sl 2 0 m1, .sl 3 0 m2], .arr 0 9 [.str] [[.str z]], .arr 0 3 [.int .i64] sts, .arr 0 3 [.int .i64] dvs] Q :=
      fun u d hu hd h => hyp_iff.2 ⟨⟨by omega, by omega, h2, la, lb, hz, hu, hd, h, h3⟩, hq⟩
    have h4 := h3 i h0 c
    have ea : ((ra.getD i.toNat []).getD 2 AV.gone).toS = s_outI ra i := rfl
    have eb : ((rb.getD i.toNat []).getD 2 AV.gone).toS = s_outI rb i := rfl
    rw [ea, eb, wi, wu, wd]
    rcases h4 with ⟨a1, b1 | b1⟩ | ⟨a1, b1⟩
    · rw [a1, b1]
      simp only [t1, t2, t3, t4, Bool.not_true, Bool.not_false, br_t, br_f, chk_iff]
      exact ⟨ba, bb, ba, ba, bb, nxt, nx up dn hu hd (by omega)⟩
    · rw [a1, b1]
      simp only [t1, t2, t3, t4, Bool.not_true, Bool.not_false, br_t, br_f, chk_iff]
      exact ⟨ba, bb, bb, ba, ba, bb, nxt, nx up (dn + 1) hu (by omega) (by omega)⟩
    · rw [a1, b1]
      simp only [t1, t2, t3, t4, Bool.not_true, Bool.not_false, br_t, br_f, chk_iff]
      exact ⟨ba, ba, bb, ba, bb, ba, bb, nxt, nx (up + 1) dn (by omega) hd (by omega)⟩
  · exact hl.elim
theorem okW5L : OkSp Try.prog H0 W5L := ⟨okV4.fn, okLLnk, trivial⟩
theorem oK_near {pass : Int → Int → Bool} {on : Int → Bool} {grd : Bool} {nd : Nat → Int} {n : Nat} {q : Nat} (hon : ∀ k, on (nd k) = true) (hg : grd = true) (hp : ∀ k, k + 1 < n → pass (nd k) (nd (k + 1)) = !(decide (k + 1 = q))) (hp2 : ∀ k, k + 2 < n → pass (nd k) (nd (k + 2)) = true) :
    ∀ k, k < n → oK pass on grd nd k = decide (q = 0 ∨ k < q)
  | 0, h => by
    show true = decide (q = 0 ∨ 0 < q)
    rw [decide_eq_true (by omega)]
  | 1, h => by
    simp only [oK]
    rw [hon, hg, hp 0 h, Bool.eq_iff_iff]
    simp
    omega
  | k + 2, h => by
    simp only [oK]
    rw [hon, hp (k + 1) h, hp2 k h, oK_near hon hg hp hp2 (k + 1) (by omega), oK_near hon hg hp hp2 k (by omega), Bool.eq_iff_iff]
    simp
    omega
theorem oK_far {pass : Int → Int → Bool} {on : Int → Bool} {grd : Bool} {nd : Nat → Int} {n : Nat} {q : Nat} (hon : ∀ k, on (nd k) = true) (hg : grd = true) (hp : ∀ k, k + 1 < n → pass (nd k) (nd (k + 1)) = true) (hp2 : ∀ k, k + 2 < n → pass (nd k) (nd (k + 2)) = !(decide (k + 2 = q))) :
    ∀ k, k < n → oK pass on grd nd k = decide (q < 2 ∨ k < q)
  | 0, h => by
    show true = decide (q < 2 ∨ 0 < q)
    rw [decide_eq_true (by omega)]
  | 1, h => by
    simp only [oK]
    rw [hon, hg, hp 0 h, Bool.eq_iff_iff]
    simp
    omega
  | k + 2, h => by
    simp only [oK]
    rw [hon, hp (k + 1) h, hp2 k h, oK_far hon hg hp hp2 (k + 1) (by omega), oK_far hon hg hp hp2 k (by omega), Bool.eq_iff_iff]
    simp
    omega
theorem rem_d {n a d : Int} (h0 : 0 ≤ a) (h1 : a < n) (hd : 0 ≤ d) (hd2 : d ≤ n) : s_rem (a + d) n = if a + d < n then a + d else a + d - n := by
  have := rem_c (show 0 < n by omega) (a + d)
  split
  · exact this.1 (by omega) (by omega)
  · exact this.2.2 (by omega) (by omega)
/-- Which link is between two nodes one, or two, away. -/
theorem link_up1 {n a b : Int} (hn : 6 ≤ n) (h0 : 0 ≤ a) (h1 : a < n) (hb : b = if a + 1 < n then a + 1 else a + 1 - n) : s_linkO n a b = some a ∧ s_linkO n b a = some a := by
  unfold s_linkO
  have e1 := rem_d h0 h1 (show (0 : Int) ≤ 1 by omega) (by omega)
  have b0 : 0 ≤ b ∧ b < n := by split at hb <;> omega
  have e2 := rem_d b0.1 b0.2 (show (0 : Int) ≤ 1 by omega) (by omega)
  constructor
  · rw [if_neg (by omega), if_pos (by rw [e1]; exact hb.symm)]
  · rw [if_neg (by omega), if_neg (by rw [e2]; split at hb <;> split <;> omega), if_pos (by rw [e1]; exact hb.symm)]
theorem link_up2 {n a b : Int} (hn : 6 ≤ n) (h0 : 0 ≤ a) (h1 : a < n) (hb : b = if a + 2 < n then a + 2 else a + 2 - n) : s_linkO n a b = some (a + n) ∧ s_linkO n b a = some (a + n) := by
  unfold s_linkO
  have b0 : 0 ≤ b ∧ b < n := by split at hb <;> omega
  have e1 := rem_d h0 h1 (show (0 : Int) ≤ 1 by omega) (by omega)
  have e2 := rem_d b0.1 b0.2 (show (0 : Int) ≤ 1 by omega) (by omega)
  have e3 := rem_d h0 h1 (show (0 : Int) ≤ 2 by omega) (by omega)
  have e4 := rem_d b0.1 b0.2 (show (0 : Int) ≤ 2 by omega) (by omega)
  constructor
  · rw [if_neg (by omega), if_neg (by rw [e1]; split at hb <;> split <;> omega), if_neg (by rw [e2]; split at hb <;> split <;> omega), if_pos (by rw [e3]; exact hb.symm)]
  · rw [if_neg (by omega), if_neg (by rw [e2]; split at hb <;> split <;> omega), if_neg (by rw [e1]; split at hb <;> split <;> omega), if_neg (by rw [e4]; split at hb <;> split <;> omega), if_pos (by rw [e3]; exact hb.symm)]
end Go.Proofs.YtiemjcchlfbglaaE
/- SpreadLink: a dead link cuts one direction at one place. -/
namespace Go.Proofs.YtiemjcchlfbglaaE
open Go
set_option linter.unusedVariables false
set_option linter.unusedSimpArgs false
set_option maxRecDepth 100000

theorem pass_link {P : RP} (hk : P.kind = 2) (hr : P.ro = 0) (ht : P.to_ = 1000) {a b v : Int} (h : s_linkO P.n a b = some v) : passP P a b = !(v == P.at_) := by
  unfold passP s_hit
  rw [hk, if_neg (by decide), if_pos rfl, hr, ht]
  unfold s_linkB s_linkN
  rw [h]
  simp
section
variable {P : RP}
theorem nd_up1 (hok : s_runOk P) (hd : P.dir = 1) {k : Nat} (hk : (k : Int) + 1 < P.n) : s_linkO P.n (s_node P.n P.sl P.dir k) (s_node P.n P.sl P.dir (k + 1)) = some (s_node P.n P.sl P.dir k) := by
  obtain ⟨k1, k2, _, k4, k5, _⟩ := hok
  have hl := node_lt (n := P.n) (o := P.sl) (dir := P.dir) (by omega) k
  refine (link_up1 k1 hl.1 hl.2 ?_).1
  rw [hd, node_up k4 k5 (by omega), node_up k4 k5 (by omega)]
  split <;> split <;> split <;> omega
theorem nd_up2 (hok : s_runOk P) (hd : P.dir = 1) {k : Nat} (hk : (k : Int) + 2 < P.n) : s_linkO P.n (s_node P.n P.sl P.dir k) (s_node P.n P.sl P.dir (k + 2)) = some (s_node P.n P.sl P.dir k + P.n) := by
  obtain ⟨k1, k2, _, k4, k5, _⟩ := hok
  have hl := node_lt (n := P.n) (o := P.sl) (dir := P.dir) (by omega) k
  refine (link_up2 k1 hl.1 hl.2 ?_).1
  rw [hd, node_up k4 k5 (by omega), node_up k4 k5 (by omega)]
  split <;> split <;> split <;> omega
theorem nd_dn1 (hok : s_runOk P) (hd : P.dir = -1) {k : Nat} (hk : (k : Int) + 1 < P.n) : s_linkO P.n (s_node P.n P.sl P.dir k) (s_node P.n P.sl P.dir (k + 1)) = some (s_node P.n P.sl P.dir (k + 1)) := by
  obtain ⟨k1, k2, _, k4, k5, _⟩ := hok
  have hl := node_lt (n := P.n) (o := P.sl) (dir := P.dir) (by omega) (k + 1)
  refine (link_up1 k1 hl.1 hl.2 ?_).2
  rw [hd, node_dn k4 k5 (by omega), node_dn k4 k5 (by omega)]
  split <;> split <;> split <;> omega
theorem nd_dn2 (hok : s_runOk P) (hd : P.dir = -1) {k : Nat} (hk : (k : Int) + 2 < P.n) : s_linkO P.n (s_node P.n P.sl P.dir k) (s_node P.n P.sl P.dir (k + 2)) = some (s_node P.n P.sl P.dir (k + 2) + P.n) := by
  obtain ⟨k1, k2, _, k4, k5, _⟩ := hok
  have hl := node_lt (n := P.n) (o := P.sl) (dir := P.dir) (by omega) (k + 2)
  refine (link_up2 k1 hl.1 hl.2 ?_).2
  rw [hd, node_dn k4 k5 (by omega), node_dn k4 k5 (by omega)]
  split <;> split <;> split <;> omega
theorem beq_dec {a b : Int} {p : Prop} [Decidable p] (h : a = b ↔ p) : (a == b) = decide p := by
  rw [Bool.eq_iff_iff, beq_iff_eq, decide_eq_true_eq]; exact h
theorem lnk_o (hok : s_runOk P) {m : Nat} (hm : (m : Int) = P.n) (hs : P.sts = s_rep m 4) (hdv : P.dvs = s_rep m 0) (hk : P.kind = 2) (hr : P.ro = 0) (ht : P.to_ = 1000) (h0 : 0 ≤ P.at_) (h1 : P.at_ < 2 * P.n) {k : Nat} (hkn : k < P.n.toNat) :
    oP P k = if P.at_ < P.n then (if P.dir = 1 then decide ((k : Int) < s_far P.n P.sl P.dir P.at_ + 1) else decide (s_far P.n P.sl P.dir P.at_ = 0 ∨ (k : Int) < s_far P.n P.sl P.dir P.at_))
      else (if P.dir = 1 then decide ((k : Int) < s_far P.n P.sl P.dir (P.at_ - P.n) + 2) else decide (s_far P.n P.sl P.dir (P.at_ - P.n) < 2 ∨ (k : Int) < s_far P.n P.sl P.dir (P.at_ - P.n))) := by
  have hok' := hok
  obtain ⟨k1, k2, k3, k4, k5, _⟩ := hok'
  have hon := calm_on hok hm hs
  have hg := calm_grd hok hm hdv
  have hnl := fun j => node_lt (n := P.n) (o := P.sl) (dir := P.dir) (by omega) j
  by_cases ha : P.at_ < P.n
  · rw [if_pos ha]
    have hf := far_lt (n := P.n) (o := P.sl) (dir := P.dir) (by omega) P.at_
    have hi := fun j hj => node_is hok h0 ha j hj
    rcases k3 with hd | hd
    · rw [if_pos hd]
      have hh : oP P k = decide ((s_far P.n P.sl P.dir P.at_).toNat + 1 = 0 ∨ k < (s_far P.n P.sl P.dir P.at_).toNat + 1) := oK_near hon hg (n := P.n.toNat) (fun j hj => by
        rw [pass_link hk hr ht (nd_up1 hok hd (by omega)), hi j (by omega)]
        congr 1
        rw [Bool.eq_iff_iff, decide_eq_true_eq, decide_eq_true_eq]; omega) (fun j hj => by
        rw [pass_link hk hr ht (nd_up2 hok hd (by omega)), beq_eq_false_iff_ne.2 (by have := hnl j; omega)]; rfl) k hkn
      rw [hh, Bool.eq_iff_iff, decide_eq_true_eq, decide_eq_true_eq]; omega
    · rw [if_neg (by omega)]
      have hh : oP P k = decide ((s_far P.n P.sl P.dir P.at_).toNat = 0 ∨ k < (s_far P.n P.sl P.dir P.at_).toNat) := oK_near hon hg (n := P.n.toNat) (fun j hj => by
        rw [pass_link hk hr ht (nd_dn1 hok hd (by omega)), hi (j + 1) (by omega)]) (fun j hj => by
        rw [pass_link hk hr ht (nd_dn2 hok hd (by omega)), beq_eq_false_iff_ne.2 (by have := hnl (j + 2); omega)]; rfl) k hkn
      rw [hh, Bool.eq_iff_iff, decide_eq_true_eq, decide_eq_true_eq]; omega
  · rw [if_neg ha]
    have hf := far_lt (n := P.n) (o := P.sl) (dir := P.dir) (by omega) (P.at_ - P.n)
    have hi := fun j hj => node_is hok (a := P.at_ - P.n) (by omega) (by omega) j hj
    have hi2 : ∀ j : Nat, j < P.n.toNat → (s_node P.n P.sl P.dir j + P.n == P.at_) = decide (j = (s_far P.n P.sl P.dir (P.at_ - P.n)).toNat) := fun j hj => by
      rw [← hi j hj, Bool.eq_iff_iff, beq_iff_eq, beq_iff_eq]; omega
    rcases k3 with hd | hd
    · rw [if_pos hd]
      have hh : oP P k = decide ((s_far P.n P.sl P.dir (P.at_ - P.n)).toNat + 2 < 2 ∨ k < (s_far P.n P.sl P.dir (P.at_ - P.n)).toNat + 2) := oK_far hon hg (n := P.n.toNat) (fun j hj => by
        rw [pass_link hk hr ht (nd_up1 hok hd (by omega)), beq_eq_false_iff_ne.2 (by have := hnl j; omega)]; rfl) (fun j hj => by
        rw [pass_link hk hr ht (nd_up2 hok hd (by omega)), hi2 j (by omega)]
        congr 1
        rw [Bool.eq_iff_iff, decide_eq_true_eq, decide_eq_true_eq]; omega) k hkn
      rw [hh, Bool.eq_iff_iff, decide_eq_true_eq, decide_eq_true_eq]; omega
    · rw [if_neg (by omega)]
      have hh : oP P k = decide ((s_far P.n P.sl P.dir (P.at_ - P.n)).toNat < 2 ∨ k < (s_far P.n P.sl P.dir (P.at_ - P.n)).toNat) := oK_far hon hg (n := P.n.toNat) (fun j hj => by
        rw [pass_link hk hr ht (nd_dn1 hok hd (by omega)), beq_eq_false_iff_ne.2 (by have := hnl (j + 1); omega)]; rfl) (fun j hj => by
        rw [pass_link hk hr ht (nd_dn2 hok hd (by omega)), hi2 (j + 2) (by omega)]) k hkn
      rw [hh, Bool.eq_iff_iff, decide_eq_true_eq, decide_eq_true_eq]; omega
theorem out_of (hok : s_runOk P) {z : ByteArray} (hz : s_clean z = z) {j : Int} (j0 : 0 ≤ j) (j1 : j < P.n) : s_outI (s_runS P z (P.n - 1).toNat) j = bs z (oP P (s_far P.n P.sl P.dir j).toNat) := by
  have e1 := get_out hok hz (i := j.toNat) (by omega)
  rw [Int.toNat_of_nonneg j0] at e1
  exact e1
end
theorem two_of {z : ByteArray} {a b : Bool} (h : a = true ∨ b = true) : s_two z (bs z a) (bs z b) := by
  unfold s_two
  cases a with
  | true =>
    cases b with
    | true => exact .inl ⟨rfl, .inl rfl⟩
    | false => exact .inl ⟨rfl, .inr rfl⟩
  | false =>
    have hb : b = true := h.elim (fun h => by cases h) id
    subst hb
    exact .inr ⟨rfl, rfl⟩
theorem lnk_holds (n pi e g fi : Int) (nl : Bool) (ps : List (List AV)) (slot at_ : Int) (k r sl pk pv : Int) (nl2 : Bool) (ec : List (List AV)) (nl3 : Bool) (ns : List (List AV)) :
    inlW Try.prog H0 W5L 6 (InO Try.prog H0 W5L 6 6) 5 [cf n pi e g fi nl ps, .int .i64 slot, .int .i64 at_, .agg [.int .i64 k, .int .i64 r, .int .i64 sl, .int .i64 pk, .int .i64 pv, .row nl2 [.int .i64, .int .i64] ec], .row nl3 [.int .i64] ns] [] (fun r => r.1 = .bool true) := by
  refine to (nfLnk ..) ?_
  intro n' pi' e' g' fi' nl' qs m z hz
  obtain ⟨hm, hmn, hz, hz0, hsz⟩ := hz
  have hc : s_confOk n' pi' e' g' fi' (List.map (fun r => (r.getD (0 : Nat) AV.gone).toI) (List.map (fun n => [AV.int IntKind.i64 n]) qs)) = true := cfMade_ok hm
  have hp := mades hm
  have hn := hm.1
  have hn2 := hm.2.1
  have w2 : IntKind.i64.wrap (2 * n') = 2 * n' := wr (by omega) (by omega)
  have ha := rem_lt at_ (show 0 < 2 * n' by omega)
  have hs := rem_lt slot (show 0 < n' by omega)
  have hok : ∀ dir : Int, (dir = 1 ∨ dir = -1) → s_runOk ⟨n', dir, 2, s_rem at_ (2 * n'), 0, 1000, 0, s_rem slot n', pi', s_rep m 4, s_rep m 0⟩ := fun dir hd => ⟨hn, hn2, hd, hs.1, hs.2, Int.le_refl 0, (by decide : (0 : Int) ≤ 1000000), hp.1, (by show pi' ≤ 1000000; omega), (by show ((s_rep m 4).length : Int) = n'; rw [rep_len]; exact hmn), (by show ((s_rep m 0).length : Int) = n'; rw [rep_len]; exact hmn)⟩
  have h1 := hok 1 (.inl rfl)
  have h2 := hok (-1) (.inr rfl)
  simp only [w2, chk_iff, hyp_iff, rep_take, rep_len]
  refine ⟨⟨by omega, by omega⟩, by omega, by omega, ⟨hc, trivial, h1, by omega⟩, fun ra hra => ⟨by omega, by omega, ⟨hc, trivial, h2, by omega⟩, fun rb hrb => ?_⟩⟩
  have la : ra.length = n'.toNat := by rw [hra]; exact run_len h1 hz
  have lb : rb.length = n'.toNat := by rw [hrb]; exact run_len h2 hz
  refine br_intro (fun c => absurd c (by rw [la]; simp; omega)) fun _ => br_intro (fun c => absurd c (by rw [lb]; simp; omega)) fun _ => ⟨⟨by omega, by omega, by omega, by omega, by omega, hz0, by omega, by omega, by omega, fun j j0 j1 => ?_⟩, fun u d hud => ?_⟩
  · rw [hra, hrb]
    have o1 := out_of h1 hz (j := j) j0 j1
    have o2 := out_of h2 hz (j := j) j0 j1
    have f1 := far_lt (n := n') (o := s_rem slot n') (dir := 1) (by omega) j
    have f2 := far_lt (n := n') (o := s_rem slot n') (dir := -1) (by omega) j
    have g1 := lnk_o h1 hmn rfl rfl rfl rfl rfl ha.1 ha.2 (k := (s_far n' (s_rem slot n') 1 j).toNat) (by show _ < n'.toNat; omega)
    have g2 := lnk_o h2 hmn rfl rfl rfl rfl rfl ha.1 ha.2 (k := (s_far n' (s_rem slot n') (-1) j).toNat) (by show _ < n'.toNat; omega)
    simp only at o1 o2 g1 g2
    rw [o1, o2]
    refine two_of ?_
    rw [g1, g2]
    have u1 := far_up hs.1 hs.2 j0 j1
    have d1 := far_dn hs.1 hs.2 j0 j1
    by_cases hat : s_rem at_ (2 * n') < n'
    · rw [if_pos hat, if_pos hat, if_pos trivial, if_neg (by decide), decide_eq_true_eq, decide_eq_true_eq]
      have u2 := far_up hs.1 hs.2 ha.1 hat
      have d2 := far_dn hs.1 hs.2 ha.1 hat
      split at u1 <;> split at d1 <;> split at u2 <;> split at d2 <;> omega
    · rw [if_neg hat, if_neg hat, if_pos trivial, if_neg (by decide), decide_eq_true_eq, decide_eq_true_eq]
      have u2 := far_up hs.1 hs.2 (i := s_rem at_ (2 * n') - n') (by omega) (by omega)
      have d2 := far_dn hs.1 hs.2 (i := s_rem at_ (2 * n') - n') (by omega) (by omega)
      split at u1 <;> split at d1 <;> split at u2 <;> split at d2 <;> omega
  · rw [wr (x := u + d) (by omega) (by omega), decide_eq_true hud.2.2]
end Go.Proofs.YtiemjcchlfbglaaE
