/- SpreadMirror: specs of its loops. -/
import Derived.Test.YtiemjcchlfbglaaBcE
import Derived.KernelRfl
namespace Go.Proofs.YtiemjcchlfbglaaE
open Go
set_option linter.unusedVariables false

/-- The node that stands for another one, the ring being turned about. -/
def s_mir (n i : Int) : Int := if i = 0 then 0 else n - i
def lMir1 : LW := fun vals h Q => match vals, h with
  | [.row nlo [.bool] offs, .row nld [.int .i64] dl, .ptr 0 0, .int .i64 i], [.box [.int .i64 n, .int .i64 pi, .int .i64 e, .int .i64 g, .int .i64 fi, .row nl [.int .i64] ps, .int .i64 fk, .int .i64 fa, .int .i64 ff, .int .i64 ft, .nils, .nils, .int .i64 ro, .int .i64 sl, .int .i64 dir, .sl 1 0 1, .sl 2 0 m1, .sl 3 0 m2], .arr 2 9 [.str] [[.str z]], .arr 2 3 [.int .i64] sts, .arr 2 3 [.int .i64] dvs] => Hyp (0 ≤ i ∧ i ≤ n ∧ n ≤ 100 ∧ 0 < pi ∧ pi ≤ 1000 ∧ (m1 : Int) = n ∧ sts.length = m1 ∧ m2 = m1 ∧ dvs.length = m2) ∧ ∀ sts' dvs' : List (List AV), sts'.length = m1 ∧ dvs'.length = m1 → Q (.exit 0) [.ptr 0 0] [.box [.int .i64 n, .int .i64 pi, .int .i64 e, .int .i64 g, .int .i64 fi, .row nl [.int .i64] ps, .int .i64 fk, .int .i64 fa, .int .i64 ff, .int .i64 ft, .nils, .nils, .int .i64 ro, .int .i64 sl, .int .i64 dir, .sl 1 0 1, .sl 2 0 m1, .sl 3 0 m2], .arr 2 9 [.str] [[.str z]], .arr 2 3 [.int .i64] sts', .arr 2 3 [.int .i64] dvs']
  | _, _ => False
def s_mirOk (n : Int) (a b : List (List AV)) (i : Int) : Prop := ∀ j : Int, 0 ≤ j → j < i → s_int b (s_mir n j) = s_int a j
def lMir2A (nn i n : Int) (m1 m2 : Nat) (sts dvs : List (List AV)) (hd : List AObj) (Q : Ex → List AV → List AObj → Prop) (rest : List AObj) : Prop := match rest with
  | [.box [.int .i64 yn, .int .i64 ypi, .int .i64 ye, .int .i64 yg, .int .i64 yfi, .row ynl [.int .i64] yps, .int .i64 yfk, .int .i64 yfa, .int .i64 yff, .int .i64 yft, .nils, .nils, .int .i64 yro, .int .i64 ysl, .int .i64 ydir, .sl 1 0 1, .sl 5 0 ym1, .sl 6 0 ym2], .arr 2 3 [.int .i64] yst, .arr 2 3 [.int .i64] ydv] =>
    Hyp (nn = n ∧ 0 ≤ i ∧ i ≤ n ∧ n ≤ 100 ∧ (m1 : Int) = n ∧ m2 = m1 ∧ ym1 = m1 ∧ ym2 = m1 ∧ sts.length = m1 ∧ dvs.length = m1 ∧ yst.length = m1 ∧ ydv.length = m1 ∧ s_mirOk n sts yst i ∧ s_mirOk n dvs ydv i) ∧
      ∀ yst' ydv' : List (List AV), yst'.length = m1 ∧ ydv'.length = m1 ∧ s_mirOk n sts yst' n ∧ s_mirOk n dvs ydv' n → Q (.exit 2) [.ptr 0 0, .ptr 4 0, .int .i64 nn] (hd ++ [.box [.int .i64 yn, .int .i64 ypi, .int .i64 ye, .int .i64 yg, .int .i64 yfi, .row ynl [.int .i64] yps, .int .i64 yfk, .int .i64 yfa, .int .i64 yff, .int .i64 yft, .nils, .nils, .int .i64 yro, .int .i64 ysl, .int .i64 ydir, .sl 1 0 1, .sl 5 0 ym1, .sl 6 0 ym2], .arr 2 3 [.int .i64] yst', .arr 2 3 [.int .i64] ydv'])
  | _ => False
def lMir2 : LW := fun vals h Q => match vals, h with
  | [.ptr 0 0, .ptr 4 0, .int .i64 nn, .int .i64 i], .box [.int .i64 n, .int .i64 pi, .int .i64 e, .int .i64 g, .int .i64 fi, .row nl [.int .i64] ps, .int .i64 fk, .int .i64 fa, .int .i64 ff, .int .i64 ft, .nils, .nils, .int .i64 ro, .int .i64 sl, .int .i64 dir, .sl 1 0 1, .sl 2 0 m1, .sl 3 0 m2] :: .arr 2 9 [.str] [[.str z]] :: .arr 2 3 [.int .i64] sts :: .arr 2 3 [.int .i64] dvs :: rest => lMir2A nn i n m1 m2 sts dvs [.box [.int .i64 n, .int .i64 pi, .int .i64 e, .int .i64 g, .int .i64 fi, .row nl [.int .i64] ps, .int .i64 fk, .int .i64 fa, .int .i64 ff, .int .i64 ft, .nils, .nils, .int .i64 ro, .int .i64 sl, .int .i64 dir, .sl 1 0 1, .sl 2 0 m1, .sl 3 0 m2], .arr 2 9 [.str] [[.str z]], .arr 2 3 [.int .i64] sts, .arr 2 3 [.int .i64] dvs] Q rest
  | _, _ => False
def lMir3 : LW := fun vals h Q => match vals, h with
  | [.int .i64 nn, .row nwa [.str, .str, .str, .int .i64] ra, .row nwb [.str, .str, .str, .int .i64] rb, .int .i64 i], [] => Hyp (0 ≤ i ∧ i ≤ nn ∧ nn ≤ 100 ∧ (ra.length : Int) = nn ∧ (rb.length : Int) = nn ∧ ∀ j : Int, 0 ≤ j → j < nn → rb.getD (s_mir nn j).toNat [] = ra.getD j.toNat []) ∧ Q (.exit 4) [] []
  | _, _ => False
def WAL : Sp := ⟨V4.fn, [(10, 6, lMir1), (10, 17, lMir2), (10, 24, lMir3)]⟩
end Go.Proofs.YtiemjcchlfbglaaE
/- What path mode says of functions, printed by a program of this session; the kernel holds each. -/
namespace Go.Proofs.YtiemjcchlfbglaaE
open Go
set_option maxRecDepth 100000
set_option linter.unusedVariables false
theorem nfMir1 (n pi e g fi fk fa ff ft ro sl dir i : Int) (nl nw : Bool) (ps rows sts dvs : List (List AV)) (m1 m2 : Nat) (z : ByteArray) (nlo nld : Bool) (offs dl : List (List AV)) (Q : Ex → List AV → List AObj → Prop) : lpBody Try.prog H0 V4 6 6 10 6 [.row nlo [.bool] offs, .row nld [.int .i64] dl, .ptr 0 0, .int .i64 i] [.box [.int .i64 n, .int .i64 pi, .int .i64 e, .int .i64 g, .int .i64 fi, .row nl [.int .i64] ps, .int .i64 fk, .int .i64 fa, .int .i64 ff, .int .i64 ft, .nils, .nils, .int .i64 ro, .int .i64 sl, .int .i64 dir, .sl 1 0 1, .sl 2 0 m1, .sl 3 0 m2], .arr 2 9 [.str] [[.str z]], .arr 2 3 [.int .i64] sts, .arr 2 3 [.int .i64] dvs] Q = (
br (decide (i < n))
 (br (decide (i < (↑offs.length : Int)))
  (chk ((0 : Int) ≤ i ∧ i < (↑offs.length : Int)) (br (((offs.getD i.toNat []).getD (0 : Nat) AV.gone).toB)
   (chk ((0 : Int) ≤ i ∧ i < (↑m1 : Int)) (chk ((0 : Nat) + i.toNat < sts.length) (br (decide (i < (↑dl.length : Int)))
    (chk ((0 : Int) ≤ i ∧ i < (↑dl.length : Int)) (chk ((0 : Int) < IntKind.i64.wrap ((6 : Int) * pi) ∧ IntKind.i64.wrap ((6 : Int) * pi) < (9223372036854775808 : Int)) (chk ((0 : Int) ≤ i ∧ i < (↑m2 : Int)) (chk ((0 : Nat) + i.toNat < dvs.length) (Q (Ex.nrm) ([AV.row nlo [K.bool] offs, AV.row nld [K.int IntKind.i64] dl, AV.ptr (0 : Nat) (0 : Nat),
  AV.int IntKind.i64 (IntKind.i64.wrap (i + (1 : Int)))]) ([AObj.box
    [AV.int IntKind.i64 n, AV.int IntKind.i64 pi, AV.int IntKind.i64 e, AV.int IntKind.i64 g, AV.int IntKind.i64 fi,
      AV.row nl [K.int IntKind.i64] ps, AV.int IntKind.i64 fk, AV.int IntKind.i64 fa, AV.int IntKind.i64 ff,
      AV.int IntKind.i64 ft, AV.nils, AV.nils, AV.int IntKind.i64 ro, AV.int IntKind.i64 sl, AV.int IntKind.i64 dir,
      AV.sl (1 : Nat) (0 : Nat) (1 : Nat), AV.sl (2 : Nat) (0 : Nat) m1, AV.sl (3 : Nat) (0 : Nat) m2],
  AObj.arr (2 : Nat) (9 : Nat) [K.str] [[AV.str z]],
  AObj.arr (2 : Nat) (3 : Nat) [K.int IntKind.i64]
    (sts.set ((0 : Nat) + i.toNat)
      (AV.int IntKind.i64 (0 : Int) :: List.drop ((0 : Nat) + (1 : Nat)) (sts.getD ((0 : Nat) + i.toNat) []))),
  AObj.arr (2 : Nat) (3 : Nat) [K.int IntKind.i64]
    (dvs.set ((0 : Nat) + i.toNat)
      (AV.int IntKind.i64
          (IntKind.i64.wrap
            (s_rem ((dl.getD i.toNat []).getD (0 : Nat) AV.gone).toI (IntKind.i64.wrap ((6 : Int) * pi)) -
              IntKind.i64.wrap ((3 : Int) * pi))) ::
        List.drop ((0 : Nat) + (1 : Nat)) (dvs.getD ((0 : Nat) + i.toNat) [])))]))))))
    (Q (Ex.nrm) ([AV.row nlo [K.bool] offs, AV.row nld [K.int IntKind.i64] dl, AV.ptr (0 : Nat) (0 : Nat),
  AV.int IntKind.i64 (IntKind.i64.wrap (i + (1 : Int)))]) ([AObj.box
    [AV.int IntKind.i64 n, AV.int IntKind.i64 pi, AV.int IntKind.i64 e, AV.int IntKind.i64 g, AV.int IntKind.i64 fi,
      AV.row nl [K.int IntKind.i64] ps, AV.int IntKind.i64 fk, AV.int IntKind.i64 fa, AV.int IntKind.i64 ff,
      AV.int IntKind.i64 ft, AV.nils, AV.nils, AV.int IntKind.i64 ro, AV.int IntKind.i64 sl, AV.int IntKind.i64 dir,
      AV.sl (1 : Nat) (0 : Nat) (1 : Nat), AV.sl (2 : Nat) (0 : Nat) m1, AV.sl (3 : Nat) (0 : Nat) m2],
  AObj.arr (2 : Nat) (9 : Nat) [K.str] [[AV.str z]],
  AObj.arr (2 : Nat) (3 : Nat) [K.int IntKind.i64]
    (sts.set ((0 : Nat) + i.toNat)
      (AV.int IntKind.i64 (0 : Int) :: List.drop ((0 : Nat) + (1 : Nat)) (sts.getD ((0 : Nat) + i.toNat) []))),
  AObj.arr (2 : Nat) (3 : Nat) [K.int IntKind.i64] dvs])))))
   (br (decide (i < (↑dl.length : Int)))
    (chk ((0 : Int) ≤ i ∧ i < (↑dl.length : Int)) (chk ((0 : Int) < IntKind.i64.wrap ((6 : Int) * pi) ∧ IntKind.i64.wrap ((6 : Int) * pi) < (9223372036854775808 : Int)) (chk ((0 : Int) ≤ i ∧ i < (↑m2 : Int)) (chk ((0 : Nat) + i.toNat < dvs.length) (Q (Ex.nrm) ([AV.row nlo [K.bool] offs, AV.row nld [K.int IntKind.i64] dl, AV.ptr (0 : Nat) (0 : Nat),
  AV.int IntKind.i64 (IntKind.i64.wrap (i + (1 : Int)))]) ([AObj.box
    [AV.int IntKind.i64 n, AV.int IntKind.i64 pi, AV.int IntKind.i64 e, AV.int IntKind.i64 g, AV.int IntKind.i64 fi,
      AV.row nl [K.int IntKind.i64] ps, AV.int IntKind.i64 fk, AV.int IntKind.i64 fa, AV.int IntKind.i64 ff,
      AV.int IntKind.i64 ft, AV.nils, AV.nils, AV.int IntKind.i64 ro, AV.int IntKind.i64 sl, AV.int IntKind.i64 dir,
      AV.sl (1 : Nat) (0 : Nat) (1 : Nat), AV.sl (2 : Nat) (0 : Nat) m1, AV.sl (3 : Nat) (0 : Nat) m2],
  AObj.arr (2 : Nat) (9 : Nat) [K.str] [[AV.str z]], AObj.arr (2 : Nat) (3 : Nat) [K.int IntKind.i64] sts,
  AObj.arr (2 : Nat) (3 : Nat) [K.int IntKind.i64]
    (dvs.set ((0 : Nat) + i.toNat)
      (AV.int IntKind.i64
          (IntKind.i64.wrap
            (s_rem ((dl.getD i.toNat []).getD (0 : Nat) AV.gone).toI (IntKind.i64.wrap ((6 : Int) * pi)) -
              IntKind.i64.wrap ((3 : Int) * pi))) ::
        List.drop ((0 : Nat) + (1 : Nat)) (dvs.getD ((0 : Nat) + i.toNat) [])))]))))))
    (Q (Ex.nrm) ([AV.row nlo [K.bool] offs, AV.row nld [K.int IntKind.i64] dl, AV.ptr (0 : Nat) (0 : Nat),
  AV.int IntKind.i64 (IntKind.i64.wrap (i + (1 : Int)))]) ([AObj.box
    [AV.int IntKind.i64 n, AV.int IntKind.i64 pi, AV.int IntKind.i64 e, AV.int IntKind.i64 g, AV.int IntKind.i64 fi,
      AV.row nl [K.int IntKind.i64] ps, AV.int IntKind.i64 fk, AV.int IntKind.i64 fa, AV.int IntKind.i64 ff,
      AV.int IntKind.i64 ft, AV.nils, AV.nils, AV.int IntKind.i64 ro, AV.int IntKind.i64 sl, AV.int IntKind.i64 dir,
      AV.sl (1 : Nat) (0 : Nat) (1 : Nat), AV.sl (2 : Nat) (0 : Nat) m1, AV.sl (3 : Nat) (0 : Nat) m2],
  AObj.arr (2 : Nat) (9 : Nat) [K.str] [[AV.str z]], AObj.arr (2 : Nat) (3 : Nat) [K.int IntKind.i64] sts,
  AObj.arr (2 : Nat) (3 : Nat) [K.int IntKind.i64] dvs])))))
  (br (decide (i < (↑dl.length : Int)))
   (chk ((0 : Int) ≤ i ∧ i < (↑dl.length : Int)) (chk ((0 : Int) < IntKind.i64.wrap ((6 : Int) * pi) ∧ IntKind.i64.wrap ((6 : Int) * pi) < (9223372036854775808 : Int)) (chk ((0 : Int) ≤ i ∧ i < (↑m2 : Int)) (chk ((0 : Nat) + i.toNat < dvs.length) (Q (Ex.nrm) ([AV.row nlo [K.bool] offs, AV.row nld [K.int IntKind.i64] dl, AV.ptr (0 : Nat) (0 : Nat),
  AV.int IntKind.i64 (IntKind.i64.wrap (i + (1 : Int)))]) ([AObj.box
    [AV.int IntKind.i64 n, AV.int IntKind.i64 pi, AV.int IntKind.i64 e, AV.int IntKind.i64 g, AV.int IntKind.i64 fi,
      AV.row nl [K.int IntKind.i64] ps, AV.int IntKind.i64 fk, AV.int IntKind.i64 fa, AV.int IntKind.i64 ff,
      AV.int IntKind.i64 ft, AV.nils, AV.nils, AV.int IntKind.i64 ro, AV.int IntKind.i64 sl, AV.int IntKind.i64 dir,
      AV.sl (1 : Nat) (0 : Nat) (1 : Nat), AV.sl (2 : Nat) (0 : Nat) m1, AV.sl (3 : Nat) (0 : Nat) m2],
  AObj.arr (2 : Nat) (9 : Nat) [K.str] [[AV.str z]], AObj.arr (2 : Nat) (3 : Nat) [K.int IntKind.i64] sts,
  AObj.arr (2 : Nat) (3 : Nat) [K.int IntKind.i64]
    (dvs.set ((0 : Nat) + i.toNat)
      (AV.int IntKind.i64
          (IntKind.i64.wrap
            (s_rem ((dl.getD i.toNat []).getD (0 : Nat) AV.gone).toI (IntKind.i64.wrap ((6 : Int) * pi)) -
              IntKind.i64.wrap ((3 : Int) * pi))) ::
        List.drop ((0 : Nat) + (1 : Nat)) (dvs.getD ((0 : Nat) + i.toNat) [])))]))))))
   (Q (Ex.nrm) ([AV.row nlo [K.bool] offs, AV.row nld [K.int IntKind.i64] dl, AV.ptr (0 : Nat) (0 : Nat),
  AV.int IntKind.i64 (IntKind.i64.wrap (i + (1 : Int)))]) ([AObj.box
    [AV.int IntKind.i64 n, AV.int IntKind.i64 pi, AV.int IntKind.i64 e, AV.int IntKind.i64 g, AV.int IntKind.i64 fi,
      AV.row nl [K.int IntKind.i64] ps, AV.int IntKind.i64 fk, AV.int IntKind.i64 fa, AV.int IntKind.i64 ff,
      AV.int IntKind.i64 ft, AV.nils, AV.nils, AV.int IntKind.i64 ro, AV.int IntKind.i64 sl, AV.int IntKind.i64 dir,
      AV.sl (1 : Nat) (0 : Nat) (1 : Nat), AV.sl (2 : Nat) (0 : Nat) m1, AV.sl (3 : Nat) (0 : Nat) m2],
  AObj.arr (2 : Nat) (9 : Nat) [K.str] [[AV.str z]], AObj.arr (2 : Nat) (3 : Nat) [K.int IntKind.i64] sts,
  AObj.arr (2 : Nat) (3 : Nat) [K.int IntKind.i64] dvs]))))
 (Q (Ex.exit (0 : Nat)) ([AV.ptr (0 : Nat) (0 : Nat)]) ([AObj.box
    [AV.int IntKind.i64 n, AV.int IntKind.i64 pi, AV.int IntKind.i64 e, AV.int IntKind.i64 g, AV.int IntKind.i64 fi,
      AV.row nl [K.int IntKind.i64] ps, AV.int IntKind.i64 fk, AV.int IntKind.i64 fa, AV.int IntKind.i64 ff,
      AV.int IntKind.i64 ft, AV.nils, AV.nils, AV.int IntKind.i64 ro, AV.int IntKind.i64 sl, AV.int IntKind.i64 dir,
      AV.sl (1 : Nat) (0 : Nat) (1 : Nat), AV.sl (2 : Nat) (0 : Nat) m1, AV.sl (3 : Nat) (0 : Nat) m2],
  AObj.arr (2 : Nat) (9 : Nat) [K.str] [[AV.str z]], AObj.arr (2 : Nat) (3 : Nat) [K.int IntKind.i64] sts,
  AObj.arr (2 : Nat) (3 : Nat) [K.int IntKind.i64] dvs]))) := by kernel_rfl
theorem nfMir2 (n pi e g fi fk fa ff ft ro sl dir i : Int) (nl nw : Bool) (ps rows sts dvs : List (List AV)) (m1 m2 : Nat) (z : ByteArray) (yn ypi ye yg yfi yfk yfa yff yft yro ysl ydir : Int) (ynl : Bool) (yps yst ydv : List (List AV)) (ym1 ym2 : Nat) (nn : Int) (Q : Ex → List AV → List AObj → Prop) : lpBody Try.prog H0 V4 6 6 10 17 [.ptr 0 0, .ptr 4 0, .int .i64 nn, .int .i64 i] [.box [.int .i64 n, .int .i64 pi, .int .i64 e, .int .i64 g, .int .i64 fi, .row nl [.int .i64] ps, .int .i64 fk, .int .i64 fa, .int .i64 ff, .int .i64 ft, .nils, .nils, .int .i64 ro, .int .i64 sl, .int .i64 dir, .sl 1 0 1, .sl 2 0 m1, .sl 3 0 m2], .arr 2 9 [.str] [[.str z]], .arr 2 3 [.int .i64] sts, .arr 2 3 [.int .i64] dvs, .box [.int .i64 yn, .int .i64 ypi, .int .i64 ye, .int .i64 yg, .int .i64 yfi, .row ynl [.int .i64] yps, .int .i64 yfk, .int .i64 yfa, .int .i64 yff, .int .i64 yft, .nils, .nils, .int .i64 yro, .int .i64 ysl, .int .i64 ydir, .sl 1 0 1, .sl 5 0 ym1, .sl 6 0 ym2], .arr 2 3 [.int .i64] yst, .arr 2 3 [.int .i64] ydv] Q = (
br (decide (i < nn))
 (chk (nn ≠ (0 : Int)) (chk (nn ≠ (0 : Int)) (chk ((0 : Int) ≤ i ∧ i < (↑m1 : Int)) (chk ((0 : Nat) + i.toNat < sts.length) (chk ((0 : Int) ≤ i ∧ i < (↑m2 : Int)) (chk ((0 : Nat) + i.toNat < dvs.length) (chk ((0 : Int) ≤ (IntKind.i64.wrap (nn - i)).tmod nn ∧ (IntKind.i64.wrap (nn - i)).tmod nn < (↑ym1 : Int)) (chk ((0 : Nat) + ((IntKind.i64.wrap (nn - i)).tmod nn).toNat < yst.length) (chk ((0 : Int) ≤ (IntKind.i64.wrap (nn - i)).tmod nn ∧ (IntKind.i64.wrap (nn - i)).tmod nn < (↑ym2 : Int)) (chk ((0 : Nat) + ((IntKind.i64.wrap (nn - i)).tmod nn).toNat < ydv.length) (Q (Ex.nrm) ([AV.ptr (0 : Nat) (0 : Nat), AV.ptr (4 : Nat) (0 : Nat), AV.int IntKind.i64 nn,
  AV.int IntKind.i64 (IntKind.i64.wrap (i + (1 : Int)))]) ([AObj.box
    [AV.int IntKind.i64 n, AV.int IntKind.i64 pi, AV.int IntKind.i64 e, AV.int IntKind.i64 g, AV.int IntKind.i64 fi,
      AV.row nl [K.int IntKind.i64] ps, AV.int IntKind.i64 fk, AV.int IntKind.i64 fa, AV.int IntKind.i64 ff,
      AV.int IntKind.i64 ft, AV.nils, AV.nils, AV.int IntKind.i64 ro, AV.int IntKind.i64 sl, AV.int IntKind.i64 dir,
      AV.sl (1 : Nat) (0 : Nat) (1 : Nat), AV.sl (2 : Nat) (0 : Nat) m1, AV.sl (3 : Nat) (0 : Nat) m2],
  AObj.arr (2 : Nat) (9 : Nat) [K.str] [[AV.str z]], AObj.arr (2 : Nat) (3 : Nat) [K.int IntKind.i64] sts,
  AObj.arr (2 : Nat) (3 : Nat) [K.int IntKind.i64] dvs,
  AObj.box
    [AV.int IntKind.i64 yn, AV.int IntKind.i64 ypi, AV.int IntKind.i64 ye, AV.int IntKind.i64 yg,
      AV.int IntKind.i64 yfi, AV.row ynl [K.int IntKind.i64] yps, AV.int IntKind.i64 yfk, AV.int IntKind.i64 yfa,
      AV.int IntKind.i64 yff, AV.int IntKind.i64 yft, AV.nils, AV.nils, AV.int IntKind.i64 yro, AV.int IntKind.i64 ysl,
      AV.int IntKind.i64 ydir, AV.sl (1 : Nat) (0 : Nat) (1 : Nat), AV.sl (5 : Nat) (0 : Nat) ym1,
      AV.sl (6 : Nat) (0 : Nat) ym2],
  AObj.arr (2 : Nat) (3 : Nat) [K.int IntKind.i64]
    (yst.set ((0 : Nat) + ((IntKind.i64.wrap (nn - i)).tmod nn).toNat)
      (AV.int IntKind.i64 ((sts.getD ((0 : Nat) + i.toNat) []).getD (0 : Nat) AV.gone).toI ::
        List.drop ((0 : Nat) + (1 : Nat)) (yst.getD ((0 : Nat) + ((IntKind.i64.wrap (nn - i)).tmod nn).toNat) []))),
  AObj.arr (2 : Nat) (3 : Nat) [K.int IntKind.i64]
    (ydv.set ((0 : Nat) + ((IntKind.i64.wrap (nn - i)).tmod nn).toNat)
      (AV.int IntKind.i64 ((dvs.getD ((0 : Nat) + i.toNat) []).getD (0 : Nat) AV.gone).toI ::
        List.drop ((0 : Nat) + (1 : Nat)) (ydv.getD ((0 : Nat) + ((IntKind.i64.wrap (nn - i)).tmod nn).toNat) [])))]))))))))))))
 (Q (Ex.exit (2 : Nat)) ([AV.ptr (0 : Nat) (0 : Nat), AV.ptr (4 : Nat) (0 : Nat), AV.int IntKind.i64 nn]) ([AObj.box
    [AV.int IntKind.i64 n, AV.int IntKind.i64 pi, AV.int IntKind.i64 e, AV.int IntKind.i64 g, AV.int IntKind.i64 fi,
      AV.row nl [K.int IntKind.i64] ps, AV.int IntKind.i64 fk, AV.int IntKind.i64 fa, AV.int IntKind.i64 ff,
      AV.int IntKind.i64 ft, AV.nils, AV.nils, AV.int IntKind.i64 ro, AV.int IntKind.i64 sl, AV.int IntKind.i64 dir,
      AV.sl (1 : Nat) (0 : Nat) (1 : Nat), AV.sl (2 : Nat) (0 : Nat) m1, AV.sl (3 : Nat) (0 : Nat) m2],
  AObj.arr (2 : Nat) (9 : Nat) [K.str] [[AV.str z]], AObj.arr (2 : Nat) (3 : Nat) [K.int IntKind.i64] sts,
  AObj.arr (2 : Nat) (3 : Nat) [K.int IntKind.i64] dvs,
  AObj.box
    [AV.int IntKind.i64 yn, AV.int IntKind.i64 ypi, AV.int IntKind.i64 ye, AV.int IntKind.i64 yg,
      AV.int IntKind.i64 yfi, AV.row ynl [K.int IntKind.i64] yps, AV.int IntKind.i64 yfk, AV.int IntKind.i64 yfa,
      AV.int IntKind.i64 yff, AV.int IntKind.i64 yft, AV.nils, AV.nils, AV.int IntKind.i64 yro, AV.int IntKind.i64 ysl,
      AV.int IntKind.i64 ydir, AV.sl (1 : Nat) (0 : Nat) (1 : Nat), AV.sl (5 : Nat) (0 : Nat) ym1,
      AV.sl (6 : Nat) (0 : Nat) ym2],
  AObj.arr (2 : Nat) (3 : Nat) [K.int IntKind.i64] yst, AObj.arr (2 : Nat) (3 : Nat) [K.int IntKind.i64] ydv]))) := by kernel_rfl
theorem nfMir3 (nn i : Int) (nwa nwb : Bool) (ra rb : List (List AV)) (Q : Ex → List AV → List AObj → Prop) : lpBody Try.prog H0 V4 6 6 10 24 [.int .i64 nn, .row nwa [.str, .str, .str, .int .i64] ra, .row nwb [.str, .str, .str, .int .i64] rb, .int .i64 i] [] Q = (
br (decide (i < nn))
 (chk (nn ≠ (0 : Int)) (chk ((0 : Int) ≤ i ∧ i < (↑ra.length : Int)) (chk ((0 : Int) ≤ (IntKind.i64.wrap (nn - i)).tmod nn ∧ (IntKind.i64.wrap (nn - i)).tmod nn < (↑rb.length : Int)) (br (!((ra.getD i.toNat []).getD (0 : Nat) AV.gone).toS.toList ==
    ((rb.getD ((IntKind.i64.wrap (nn - i)).tmod nn).toNat []).getD (0 : Nat) AV.gone).toS.toList)
  (Q (Ex.ret) ([AV.bool false]) ([]))
  (chk ((0 : Int) ≤ i ∧ i < (↑ra.length : Int)) (chk ((0 : Int) ≤ (IntKind.i64.wrap (nn - i)).tmod nn ∧ (IntKind.i64.wrap (nn - i)).tmod nn < (↑rb.length : Int)) (br (!((ra.getD i.toNat []).getD (1 : Nat) AV.gone).toS.toList ==
    ((rb.getD ((IntKind.i64.wrap (nn - i)).tmod nn).toNat []).getD (1 : Nat) AV.gone).toS.toList)
   (Q (Ex.ret) ([AV.bool false]) ([]))
   (chk ((0 : Int) ≤ i ∧ i < (↑ra.length : Int)) (chk ((0 : Int) ≤ (IntKind.i64.wrap (nn - i)).tmod nn ∧ (IntKind.i64.wrap (nn - i)).tmod nn < (↑rb.length : Int)) (br (!((ra.getD i.toNat []).getD (2 : Nat) AV.gone).toS.toList ==
    ((rb.getD ((IntKind.i64.wrap (nn - i)).tmod nn).toNat []).getD (2 : Nat) AV.gone).toS.toList)
    (Q (Ex.ret) ([AV.bool false]) ([]))
    (chk ((0 : Int) ≤ i ∧ i < (↑ra.length : Int)) (chk ((0 : Int) ≤ (IntKind.i64.wrap (nn - i)).tmod nn ∧ (IntKind.i64.wrap (nn - i)).tmod nn < (↑rb.length : Int)) (br (((ra.getD i.toNat []).getD (3 : Nat) AV.gone).toI !=
  ((rb.getD ((IntKind.i64.wrap (nn - i)).tmod nn).toNat []).getD (3 : Nat) AV.gone).toI)
     (Q (Ex.ret) ([AV.bool false]) ([]))
     (Q (Ex.nrm) ([AV.int IntKind.i64 nn, AV.row nwa [K.str, K.str, K.str, K.int IntKind.i64] ra,
  AV.row nwb [K.str, K.str, K.str, K.int IntKind.i64] rb, AV.int IntKind.i64 (IntKind.i64.wrap (i + (1 : Int)))]) ([])))))))))))))))
 (Q (Ex.exit (4 : Nat)) ([]) ([]))) := by kernel_rfl
theorem nfMir (n pi e g fi : Int) (nl : Bool) (ps : List (List AV)) (slot at_ : Int) (k r sl pk pv : Int) (nl2 : Bool) (ec : List (List AV)) (nl3 : Bool) (ns : List (List AV)) (nlo : Bool) (offs : List (List AV)) (nld : Bool) (dl : List (List AV)) (Q : AV × List AObj → Prop) : inlW Try.prog H0 WAL 6 (InO Try.prog H0 WAL 6 6) 10 [cf n pi e g fi nl ps, .int .i64 slot, .int .i64 at_, .agg [.int .i64 k, .int .i64 r, .int .i64 sl, .int .i64 pk, .int .i64 pv, .row nl2 [.int .i64, .int .i64] ec], .row nl3 [.int .i64] ns, .row nlo [.bool] offs, .row nld [.int .i64] dl] [] Q = (
(∀ (n100 : Int),
(∀ (pi101 : Int),
(∀ (e102 : Int),
(∀ (g103 : Int),
(∀ (fi104 : Int),
(∀ (nl105 : Bool),
(∀ (qs106 : List Int),
(∀ (m107 : Nat),
(∀ (z108 : ByteArray),
((s_made n100 pi101 e102 g103 fi104 qs106 ∧
  (↑m107 : Int) = n100 ∧ s_clean z108 = z108 ∧ (0 : Nat) < z108.size ∧ z108.size ≤ (1000 : Nat)) →
chk ((0 : Int) < n100 ∧ n100 < (9223372036854775808 : Int)) (((Hyp ((0 : Int) ≤ (0 : Int) ∧
  (0 : Int) ≤ n100 ∧
    n100 ≤ (100 : Int) ∧
      (0 : Int) < pi101 ∧
        pi101 ≤ (1000 : Int) ∧
          (↑m107 : Int) = n100 ∧
            (s_rep m107 (4 : Int)).length = m107 ∧ m107 = m107 ∧ (s_rep m107 (0 : Int)).length = m107)) ∧
((∀ (sts'112 : List (List AV)),
(∀ (dvs'113 : List (List AV)),
((sts'112.length = m107 ∧ dvs'113.length = m107) →
chk (n100 ≠ (0 : Int)) (chk (n100 ≠ (0 : Int)) (chk ((0 : Int) ≤ n100 ∧ n100 ≤ n100 ∧ (8 : Int) * n100 ≤ (140737488355328 : Int)) (chk (n100 ≤ (9223372036854775807 : Int)) (chk ((0 : Int) ≤ n100 ∧ n100 ≤ n100 ∧ (8 : Int) * n100 ≤ (140737488355328 : Int)) (chk (n100 ≤ (9223372036854775807 : Int)) (((Hyp (n100 = n100 ∧
  (0 : Int) ≤ (0 : Int) ∧
    (0 : Int) ≤ n100 ∧
      n100 ≤ (100 : Int) ∧
        (↑m107 : Int) = n100 ∧
          m107 = m107 ∧
            n100.toNat = m107 ∧
              n100.toNat = m107 ∧
                sts'112.length = m107 ∧
                  dvs'113.length = m107 ∧
                    (List.replicate n100.toNat [AV.int IntKind.i64 (0 : Int)]).length = m107 ∧
                      (List.replicate n100.toNat [AV.int IntKind.i64 (0 : Int)]).length = m107 ∧
                        s_mirOk n100 sts'112 (List.replicate n100.toNat [AV.int IntKind.i64 (0 : Int)]) (0 : Int) ∧
                          s_mirOk n100 dvs'113 (List.replicate n100.toNat [AV.int IntKind.i64 (0 : Int)]) (0 : Int))) ∧
((∀ (yst'122 : List (List AV)),
(∀ (ydv'123 : List (List AV)),
((yst'122.length = m107 ∧ ydv'123.length = m107 ∧ s_mirOk n100 sts'112 yst'122 n100 ∧ s_mirOk n100 dvs'113 ydv'123 n100) →
chk ((0 : Nat) + m107 ≤ sts'112.length) (chk ((0 : Nat) + m107 ≤ dvs'113.length) (chk ((0 : Nat) + m107 ≤ sts'112.length) (chk ((0 : Nat) + m107 ≤ dvs'113.length) (((Hyp (s_confOk n100 pi101 e102 g103 fi104
      (List.map (fun r => (r.getD (0 : Nat) AV.gone).toI) (List.map (fun n => [AV.int IntKind.i64 n]) qs106)) =
    true ∧
  ([] : List (List AV)) = [] ∧
    s_runOk
        { n := n100, dir := (1 : Int), kind := (1 : Int), at_ := s_rem at_ n100, fr := (0 : Int), to_ := (1000 : Int),
          ro := (0 : Int), sl := s_rem slot n100, pi := pi101, sts := List.take m107 (List.drop (0 : Nat) sts'112),
          dvs := List.take m107 (List.drop (0 : Nat) dvs'113) } ∧
      z108.size ≤ (1000000 : Nat))) ∧
((∀ (rows130 : List (List AV)),
((rows130 =
  s_runS
    { n := n100, dir := (1 : Int), kind := (1 : Int), at_ := s_rem at_ n100, fr := (0 : Int), to_ := (1000 : Int),
      ro := (0 : Int), sl := s_rem slot n100, pi := pi101, sts := List.take m107 (List.drop (0 : Nat) sts'112),
      dvs := List.take m107 (List.drop (0 : Nat) dvs'113) }
    z108 (n100 - (1 : Int)).toNat) →
chk ((0 : Nat) + n100.toNat ≤ yst'122.length) (chk ((0 : Nat) + n100.toNat ≤ ydv'123.length) (((Hyp (s_confOk n100 pi101 e102 g103 fi104
      (List.map (fun r => (r.getD (0 : Nat) AV.gone).toI) (List.map (fun n => [AV.int IntKind.i64 n]) qs106)) =
    true ∧
  ([] : List (List AV)) = [] ∧
    s_runOk
        { n := n100, dir := (-1 : Int), kind := (1 : Int), at_ := (IntKind.i64.wrap (n100 - s_rem at_ n100)).tmod n100,
          fr := (0 : Int), to_ := (1000 : Int), ro := (0 : Int),
          sl := (IntKind.i64.wrap (n100 - s_rem slot n100)).tmod n100, pi := pi101,
          sts := List.take n100.toNat (List.drop (0 : Nat) yst'122),
          dvs := List.take n100.toNat (List.drop (0 : Nat) ydv'123) } ∧
      z108.size ≤ (1000000 : Nat))) ∧
((∀ (rows135 : List (List AV)),
((rows135 =
  s_runS
    { n := n100, dir := (-1 : Int), kind := (1 : Int), at_ := (IntKind.i64.wrap (n100 - s_rem at_ n100)).tmod n100,
      fr := (0 : Int), to_ := (1000 : Int), ro := (0 : Int),
      sl := (IntKind.i64.wrap (n100 - s_rem slot n100)).tmod n100, pi := pi101,
      sts := List.take n100.toNat (List.drop (0 : Nat) yst'122),
      dvs := List.take n100.toNat (List.drop (0 : Nat) ydv'123) }
    z108 (n100 - (1 : Int)).toNat) →
br ((↑rows130.length : Int) != n100)
 (Q ((AV.bool false, [])))
 (br ((↑rows135.length : Int) != n100)
  (Q ((AV.bool false, [])))
  (((Hyp ((0 : Int) ≤ (0 : Int) ∧
  (0 : Int) ≤ n100 ∧
    n100 ≤ (100 : Int) ∧
      (↑rows130.length : Int) = n100 ∧
        (↑rows135.length : Int) = n100 ∧
          ∀ (j : Int), (0 : Int) ≤ j → j < n100 → rows135.getD (s_mir n100 j).toNat [] = rows130.getD j.toNat [])) ∧
  (Q ((AV.bool true, [])))))))))))))))))))))))))))))))))))))))))))))))) := by kernel_rfl
end Go.Proofs.YtiemjcchlfbglaaE
/- SpreadMirror: the plain law. -/
namespace Go.Proofs.YtiemjcchlfbglaaE
open Go
set_option linter.unusedVariables false
set_option linter.unusedSimpArgs false
set_option maxRecDepth 100000

theorem mir_tmod {n i : Int} (h0 : 0 ≤ i) (h1 : i < n) : (n - i).tmod n = s_mir n i := by
  unfold s_mir
  by_cases h : i = 0
  · rw [if_pos h, h, Int.sub_zero, Int.tmod_self]
  · rw [if_neg h, Int.tmod_eq_of_lt (by omega) (by omega)]
theorem mir_lt {n i : Int} (h0 : 0 ≤ i) (h1 : i < n) : 0 ≤ s_mir n i ∧ s_mir n i < n := by
  unfold s_mir
  split <;> omega
theorem mir_inj {n i j : Int} (h0 : 0 ≤ i) (h1 : i < n) (h2 : 0 ≤ j) (h3 : j < n) : s_mir n i = s_mir n j ↔ i = j := by
  unfold s_mir
  split <;> split <;> omega
theorem okLMir1 : OkLp Try.prog H0 10 6 lMir1 := by
  refine okLp_of (U := 6) (k := 6) okV4 lMir1 (fun vals _ => match vals with | [_, _, _, .int _ i] => (100 - i).toNat | _ => 0) fun vals h Q hl => ?_
  unfold lMir1 at hl
  split at hl
  · rename_i nlo offs nld dl i n pi e g fi nl ps fk fa ff ft ro sl dir m1 m2 z sts dvs
    obtain ⟨⟨h0, h1, h2, p0, p1, h3, h4, h5, h6⟩, hq⟩ := hyp_iff.1 hl
    subst h5
    refine to (nfMir1 (nw := false) (rows := []) ..) (br_intro (fun c => ?_) fun _ => hq sts dvs ⟨h4, h6⟩)
    have c := of_decide_eq_true c
    have wi : IntKind.i64.wrap (i + 1) = i + 1 := wr (by omega) (by omega)
    have w6 : IntKind.i64.wrap (6 * pi) = 6 * pi := wr (by omega) (by omega)
    have w3 : IntKind.i64.wrap (3 * pi) = 3 * pi := wr (by omega) (by omega)
    have nxt : (100 - (i + 1)).toNat < (100 - i).toNat := by omega
    simp only [wi, w6, w3, chk_iff, Nat.zero_add]
    have nx : ∀ (s d : List (List AV)), s.length = m2 → d.length = m2 → lMir1 [.row nlo [.bool] offs, .row nld [.int .i64] dl, .ptr 0 0, .int .i64 (i + 1)] [.box [.int .i64 n, .int .i64 pi, .int .i64 e, .int .i64 g, .int .i64 fi, .row nl [.int .i64] ps, .int .i64 fk, .int .i64 fa, .int .i64 ff, .int .i64 ft, .nils, .nils, .int .i64 ro, .int .i64 sl, .int .i64 dir, .sl 1 0 1, .sl 2 0 m2, .sl 3 0 m2], .arr 2 9 [.str] [[.str z]], .arr 2 3 [.int .i64] s, .arr 2 3 [.int .i64] d] Q :=
      fun s d hs hd => hyp_iff.2 ⟨⟨by omega, by omega, h2, p0, p1, h3, hs, rfl, hd⟩, hq⟩
    have b2 : 0 ≤ i ∧ i < (m2 : Int) := ⟨h0, by omega⟩
    have b3 : i.toNat < sts.length := by omega
    have b4 : i.toNat < dvs.length := by omega
    have p6 : 0 < 6 * pi ∧ 6 * pi < 9223372036854775808 := ⟨by omega, by omega⟩
    refine br_intro (fun c1 => ?_) fun _ => br_intro (fun c2 => ?_) fun _ => ⟨nxt, nx _ _ h4 h6⟩
    · have c1 := of_decide_eq_true c1
      refine ⟨⟨h0, c1⟩, br_intro (fun _ => ⟨b2, b3, br_intro (fun c2 => ?_) fun _ => ⟨nxt, nx _ _ (by rw [List.length_set]; exact h4) h6⟩⟩) fun _ => br_intro (fun c2 => ?_) fun _ => ⟨nxt, nx _ _ h4 h6⟩⟩
      · have c2 := of_decide_eq_true c2
        exact ⟨⟨h0, c2⟩, p6, b2, b4, nxt, nx _ _ (by rw [List.length_set]; exact h4) (by rw [List.length_set]; exact h6)⟩
      · have c2 := of_decide_eq_true c2
        exact ⟨⟨h0, c2⟩, p6, b2, b4, nxt, nx _ _ h4 (by rw [List.length_set]; exact h6)⟩
    · have c2 := of_decide_eq_true c2
      exact ⟨⟨h0, c2⟩, p6, b2, b4, nxt, nx _ _ h4 (by rw [List.length_set]; exact h6)⟩
  · exact hl.elim
theorem set_int' {l : List (List AV)} {g i v : Int} {t : List AV} (hg : 0 ≤ g) (hgl : g < l.length) (hi : 0 ≤ i) : s_int (l.set g.toNat (.int .i64 v :: t)) i = if i = g then v else s_int l i := by
  unfold s_int
  by_cases h : i = g
  · subst h
    have e : (l.set i.toNat (AV.int .i64 v :: t)).getD i.toNat [] = AV.int .i64 v :: t := by
      rw [List.getD_eq_getElem?_getD, List.getElem?_set_self (by omega)]; rfl
    rw [if_pos rfl, e]
    rfl
  · have e : (l.set g.toNat (AV.int .i64 v :: t)).getD i.toNat [] = l.getD i.toNat [] := by
      rw [List.getD_eq_getElem?_getD, List.getElem?_set_ne (by omega), ← List.getD_eq_getElem?_getD]
    rw [if_neg h, e]
theorem mirOk_succ {n i : Int} {a b : List (List AV)} {t : List AV} (h0 : 0 ≤ i) (h1 : i < n) (hl : (b.length : Int) = n) (h : s_mirOk n a b i) : s_mirOk n a (b.set (s_mir n i).toNat (.int .i64 (s_int a i) :: t)) (i + 1) := fun j j0 j1 => by
  have hm := mir_lt h0 h1
  have hj := mir_lt j0 (show j < n by omega)
  rw [set_int' hm.1 (by omega) hj.1]
  by_cases e : j = i
  · subst e; rw [if_pos rfl]
  · rw [if_neg (fun h2 => e ((mir_inj j0 (by omega) h0 h1).1 h2)), h j j0 (by omega)]
theorem okLMir2 : OkLp Try.prog H0 10 17 lMir2 := by
  refine okLp_of (U := 6) (k := 6) okV4 lMir2 (fun vals _ => match vals with | [_, _, _, .int _ i] => (100 - i).toNat | _ => 0) fun vals h Q hl => ?_
  unfold lMir2 at hl
  split at hl
  rotate_left
  · exact hl.elim
  rename_i nn i n pi e g fi nl ps fk fa ff ft ro sl dir m1 m2 z sts dvs rest
  unfold lMir2A at hl
  split at hl
  · rename_i yn ypi ye yg yfi ynl yps yfk yfa yff yft yro ysl ydir ym1 ym2 yst ydv
    obtain ⟨⟨e1, h0, h1, h2, h3, e2, e3, e4, l1, l2, l3, l4, k1, k2⟩, hq⟩ := hyp_iff.1 hl
    subst e1; subst e2; subst e3; subst e4
    refine to (nfMir2 (nw := false) (rows := []) ..) (br_intro (fun c => ?_) fun c => ?_)
    · have c := of_decide_eq_true c
      have wi : IntKind.i64.wrap (i + 1) = i + 1 := wr (by omega) (by omega)
      have wn : IntKind.i64.wrap (nn - i) = nn - i := wr (by omega) (by omega)
      have hm := mir_lt h0 c
      simp only [wi, wn, mir_tmod h0 c, chk_iff, Nat.zero_add]
      refine ⟨by omega, by omega, ⟨h0, by omega⟩, by omega, ⟨h0, by omega⟩, by omega, ⟨hm.1, by omega⟩, by omega, ⟨hm.1, by omega⟩, by omega, by show (100 - (i + 1)).toNat < (100 - i).toNat; omega, hyp_iff.2 ⟨⟨rfl, by omega, by omega, h2, h3, rfl, rfl, rfl, l1, l2, by rw [List.length_set]; exact l3, by rw [List.length_set]; exact l4, mirOk_succ h0 c (by omega) k1, mirOk_succ h0 c (by omega) k2⟩, hq⟩⟩
    · have c := of_decide_eq_false c
      have : i = nn := by omega
      subst this
      exact hq yst ydv ⟨l3, l4, k1, k2⟩
  · exact hl.elim
theorem okLMir3 : OkLp Try.prog H0 10 24 lMir3 := by
  refine okLp_of (U := 6) (k := 6) okV4 lMir3 (fun vals _ => match vals with | [_, _, _, .int _ i] => (100 - i).toNat | _ => 0) fun vals h Q hl => ?_
  unfold lMir3 at hl
  split at hl
  · rename_i nn nwa ra nwb rb i
    obtain ⟨⟨h0, h1, h2, la, lb, h3⟩, hq⟩ := hyp_iff.1 hl
    refine to (nfMir3 ..) (br_intro (fun c => ?_) fun c => hq)
    have c := of_decide_eq_true c
    have wi : IntKind.i64.wrap (i + 1) = i + 1 := wr (by omega) (by omega)
    have wn : IntKind.i64.wrap (nn - i) = nn - i := wr (by omega) (by omega)
    have hm := mir_lt h0 c
    simp only [wi, wn, mir_tmod h0 c, chk_iff, h3 i h0 c, beq_self_eq_true, Bool.not_true, br_f, bne_self_eq_false]
    have ba : 0 ≤ i ∧ i < (ra.length : Int) := ⟨h0, by omega⟩
    have bb : 0 ≤ s_mir nn i ∧ s_mir nn i < (rb.length : Int) := ⟨hm.1, by omega⟩
    exact ⟨by omega, ba, bb, ba, bb, ba, bb, ba, bb, by show (100 - (i + 1)).toNat < (100 - i).toNat; omega, hyp_iff.2 ⟨⟨by omega, by omega, h2, la, lb, h3⟩, hq⟩⟩
  · exact hl.elim
theorem okWAL : OkSp Try.prog H0 WAL := ⟨okV4.fn, okLMir1, okLMir2, okLMir3, trivial⟩
theorem oK_congr {pass pass' : Int → Int → Bool} {on on' : Int → Bool} {grd grd' : Bool} {nd nd' : Nat → Int} {n : Nat} (hp : ∀ a b, a < n → b < n → pass' (nd' a) (nd' b) = pass (nd a) (nd b)) (ho : ∀ k, k < n → on' (nd' k) = on (nd k)) (hg : grd' = grd) :
    ∀ k, k < n → oK pass' on' grd' nd' k = oK pass on grd nd k
  | 0, _ => rfl
  | 1, h => by simp only [oK]; rw [ho 1 h, hp 0 1 (by omega) h, hg]
  | k + 2, h => by
    simp only [oK]
    rw [ho (k + 2) h, hp (k + 1) (k + 2) (by omega) h, hp k (k + 2) (by omega) h, oK_congr hp ho hg (k + 1) (by omega), oK_congr hp ho hg k (by omega)]
theorem dK_congr {pass pass' : Int → Int → Bool} {on on' : Int → Bool} {grd grd' : Bool} {nd nd' : Nat → Int} {n : Nat} (hp : ∀ a b, a < n → b < n → pass' (nd' a) (nd' b) = pass (nd a) (nd b)) (ho : ∀ k, k < n → on' (nd' k) = on (nd k)) (hg : grd' = grd) :
    ∀ k, k < n → dK pass' on' grd' nd' k = dK pass on grd nd k
  | 0, _ => rfl
  | 1, h => by simp only [dK]; rw [hp 0 1 (by omega) h, hg]
  | k + 2, h => by
    simp only [dK]
    rw [hp (k + 1) (k + 2) (by omega) h, oK_congr hp ho hg (k + 1) (by omega)]
theorem kK_congr {pass pass' : Int → Int → Bool} {on on' : Int → Bool} {grd grd' : Bool} {nd nd' : Nat → Int} {n : Nat} (hp : ∀ a b, a < n → b < n → pass' (nd' a) (nd' b) = pass (nd a) (nd b)) (ho : ∀ k, k < n → on' (nd' k) = on (nd k)) (hg : grd' = grd) :
    ∀ k, k < n → kK pass' on' grd' nd' k = kK pass on grd nd k
  | 0, _ => rfl
  | 1, _ => rfl
  | k + 2, h => by
    simp only [kK]
    rw [hp k (k + 2) (by omega) h, oK_congr hp ho hg k (by omega)]
theorem node_mir {n o : Int} (h0 : 0 ≤ o) (h1 : o < n) {k : Nat} (hk : (k : Int) < n) : s_node n (s_mir n o) (-1) k = s_mir n (s_node n o 1 k) := by
  have hm := mir_lt h0 h1
  rw [node_dn hm.1 hm.2 hk, node_up h0 h1 hk]
  unfold s_mir
  split <;> split <;> split <;> split <;> omega
theorem far_mir {n o i : Int} (h0 : 0 ≤ o) (h1 : o < n) (hi : 0 ≤ i) (hi2 : i < n) : s_far n (s_mir n o) (-1) (s_mir n i) = s_far n o 1 i := by
  have hm := mir_lt h0 h1
  have hm2 := mir_lt hi hi2
  rw [far_dn hm.1 hm.2 hm2.1 hm2.2, far_up h0 h1 hi hi2]
  unfold s_mir
  split <;> split <;> split <;> split <;> omega
theorem mir_rows {n pi at_ sl : Int} {sts dvs yst ydv : List (List AV)} (hn : 6 ≤ n) (hs : 0 ≤ sl ∧ sl < n) (ha : 0 ≤ at_ ∧ at_ < n) (h1 : s_runOk ⟨n, 1, 1, at_, 0, 1000, 0, sl, pi, sts, dvs⟩) (h2 : s_runOk ⟨n, -1, 1, s_mir n at_, 0, 1000, 0, s_mir n sl, pi, yst, ydv⟩)
    (k1 : s_mirOk n sts yst n) (k2 : s_mirOk n dvs ydv n) {z : ByteArray} (hz : s_clean z = z) {j : Int} (j0 : 0 ≤ j) (j1 : j < n) :
    (s_runS ⟨n, -1, 1, s_mir n at_, 0, 1000, 0, s_mir n sl, pi, yst, ydv⟩ z (n - 1).toNat).getD (s_mir n j).toNat [] = (s_runS ⟨n, 1, 1, at_, 0, 1000, 0, sl, pi, sts, dvs⟩ z (n - 1).toNat).getD j.toNat [] := by
  have hm := mir_lt j0 j1
  have r1 := run_get h1 hz (i := j.toNat) (by show (j.toNat : Int) < n; omega)
  have r2 := run_get h2 hz (i := (s_mir n j).toNat) (by show ((s_mir n j).toNat : Int) < n; omega)
  rw [Int.toNat_of_nonneg j0] at r1
  rw [Int.toNat_of_nonneg hm.1] at r2
  simp only at r1 r2
  rw [far_mir hs.1 hs.2 j0 j1] at r2
  rw [r1, r2]
  have hf := far_lt (n := n) (o := sl) (dir := 1) (by omega) j
  obtain ⟨k, hk⟩ : ∃ k, k = (s_far n sl 1 j).toNat := ⟨_, rfl⟩
  rw [← hk]
  have hkn : k < n.toNat := by omega
  have hnl := fun a => node_lt (n := n) (o := sl) (dir := 1) (by omega) a
  have hp : ∀ a b : Nat, a < n.toNat → b < n.toNat → passP ⟨n, -1, 1, s_mir n at_, 0, 1000, 0, s_mir n sl, pi, yst, ydv⟩ (s_node n (s_mir n sl) (-1) a) (s_node n (s_mir n sl) (-1) b) = passP ⟨n, 1, 1, at_, 0, 1000, 0, sl, pi, sts, dvs⟩ (s_node n sl 1 a) (s_node n sl 1 b) := fun a b ha2 hb2 => by
    unfold passP s_hit
    simp only [if_true]
    rw [node_mir hs.1 hs.2 (by omega)]
    have : (s_mir n (s_node n sl 1 a) == s_mir n at_) = (s_node n sl 1 a == at_) := by
      rw [Bool.eq_iff_iff, beq_iff_eq, beq_iff_eq]
      exact mir_inj (hnl a).1 (hnl a).2 ha.1 ha.2
    rw [this]
  have ho : ∀ a : Nat, a < n.toNat → onP ⟨n, -1, 1, s_mir n at_, 0, 1000, 0, s_mir n sl, pi, yst, ydv⟩ (s_node n (s_mir n sl) (-1) a) = onP ⟨n, 1, 1, at_, 0, 1000, 0, sl, pi, sts, dvs⟩ (s_node n sl 1 a) := fun a ha2 => by
    unfold onP
    simp only
    rw [node_mir hs.1 hs.2 (by omega), k1 _ (hnl a).1 (hnl a).2]
  have hg : grdP ⟨n, -1, 1, s_mir n at_, 0, 1000, 0, s_mir n sl, pi, yst, ydv⟩ = grdP ⟨n, 1, 1, at_, 0, 1000, 0, sl, pi, sts, dvs⟩ := by
    unfold grdP
    simp only
    rw [node_mir hs.1 hs.2 (by omega), k1 _ (hnl 1).1 (hnl 1).2, k2 _ (hnl 1).1 (hnl 1).2]
  unfold sideR
  rw [show dP _ k = dP _ k from dK_congr hp ho hg k hkn, show kP _ k = kP _ k from kK_congr hp ho hg k hkn, show oP _ k = oP _ k from oK_congr hp ho hg k hkn]
theorem mir_holds (n pi e g fi : Int) (nl : Bool) (ps : List (List AV)) (slot at_ : Int) (k r sl pk pv : Int) (nl2 : Bool) (ec : List (List AV)) (nl3 : Bool) (ns : List (List AV)) (nlo : Bool) (offs : List (List AV)) (nld : Bool) (dl : List (List AV)) :
    inlW Try.prog H0 WAL 6 (InO Try.prog H0 WAL 6 6) 10 [cf n pi e g fi nl ps, .int .i64 slot, .int .i64 at_, .agg [.int .i64 k, .int .i64 r, .int .i64 sl, .int .i64 pk, .int .i64 pv, .row nl2 [.int .i64, .int .i64] ec], .row nl3 [.int .i64] ns, .row nlo [.bool] offs, .row nld [.int .i64] dl] [] (fun r => r.1 = .bool true) := by
  refine to (nfMir ..) ?_
  intro n' pi' e' g' fi' nl' qs m z hz
  obtain ⟨hm, hmn, hz, hz0, hsz⟩ := hz
  have hc : s_confOk n' pi' e' g' fi' (List.map (fun r => (r.getD (0 : Nat) AV.gone).toI) (List.map (fun n => [AV.int IntKind.i64 n]) qs)) = true := cfMade_ok hm
  have hp := mades hm
  have hp4 : 4 ≤ pi' := by unfold s_made at hm; omega
  have hn := hm.1
  have hn2 := hm.2.1
  have ha := rem_lt at_ (show 0 < n' by omega)
  have hs := rem_lt slot (show 0 < n' by omega)
  have wa : IntKind.i64.wrap (n' - s_rem at_ n') = n' - s_rem at_ n' := wr (by omega) (by omega)
  have ws : IntKind.i64.wrap (n' - s_rem slot n') = n' - s_rem slot n' := wr (by omega) (by omega)
  have ma := mir_lt ha.1 ha.2
  have ms := mir_lt hs.1 hs.2
  have nm : n'.toNat = m := by omega
  simp only [wa, ws, mir_tmod ha.1 ha.2, mir_tmod hs.1 hs.2, chk_iff, hyp_iff, rep_len, nm, List.length_replicate]
  refine ⟨⟨by omega, by omega⟩, ⟨by omega, by omega, by omega, by omega, by omega, hmn, trivial, trivial, trivial⟩, fun sts dvs hsd => ?_⟩
  obtain ⟨ls, ld⟩ := hsd
  have ts : List.take m (List.drop 0 sts) = sts := by rw [List.drop_zero, List.take_of_length_le (Nat.le_of_eq ls)]
  have td : List.take m (List.drop 0 dvs) = dvs := by rw [List.drop_zero, List.take_of_length_le (Nat.le_of_eq ld)]
  refine ⟨by omega, by omega, ⟨by omega, by omega, by omega⟩, by omega, ⟨by omega, by omega, by omega⟩, by omega, ⟨trivial, by omega, by omega, by omega, hmn, trivial, trivial, trivial, ls, ld, trivial, trivial, fun j j0 j1 => by omega, fun j j0 j1 => by omega⟩, fun yst ydv hyd => ?_⟩
  obtain ⟨lys, lyd, k1, k2⟩ := hyd
  have tys : List.take m (List.drop 0 yst) = yst := by rw [List.drop_zero, List.take_of_length_le (Nat.le_of_eq lys)]
  have tyd : List.take m (List.drop 0 ydv) = ydv := by rw [List.drop_zero, List.take_of_length_le (Nat.le_of_eq lyd)]
  have h1 : s_runOk ⟨n', 1, 1, s_rem at_ n', 0, 1000, 0, s_rem slot n', pi', sts, dvs⟩ := ⟨hn, hn2, .inl rfl, hs.1, hs.2, Int.le_refl 0, (by decide : (0 : Int) ≤ 1000000), hp.1, (by show pi' ≤ 1000000; omega), (by show (sts.length : Int) = n'; omega), (by show (dvs.length : Int) = n'; omega)⟩
  have h2 : s_runOk ⟨n', -1, 1, s_mir n' (s_rem at_ n'), 0, 1000, 0, s_mir n' (s_rem slot n'), pi', yst, ydv⟩ := ⟨hn, hn2, .inr rfl, ms.1, ms.2, Int.le_refl 0, (by decide : (0 : Int) ≤ 1000000), hp.1, (by show pi' ≤ 1000000; omega), (by show (yst.length : Int) = n'; omega), (by show (ydv.length : Int) = n'; omega)⟩
  simp only [ts, td, tys, tyd]
  refine ⟨by omega, by omega, by omega, by omega, ⟨hc, trivial, h1, by omega⟩, fun ra hra => ⟨by omega, by omega, ⟨hc, trivial, h2, by omega⟩, fun rb hrb => ?_⟩⟩
  have la : ra.length = n'.toNat := by rw [hra]; exact run_len h1 hz
  have lb : rb.length = n'.toNat := by rw [hrb]; exact run_len h2 hz
  refine br_intro (fun c => absurd c (by rw [la]; simp; omega)) fun _ => br_intro (fun c => absurd c (by rw [lb]; simp; omega)) fun _ => ⟨⟨by omega, by omega, by omega, by omega, by omega, fun j j0 j1 => ?_⟩, trivial⟩
  rw [hra, hrb]
  exact mir_rows hn hs ha h1 h2 k1 k2 hz j0 j1
end Go.Proofs.YtiemjcchlfbglaaE
