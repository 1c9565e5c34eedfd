/- SpreadGuard: specs of its loops. -/
import Derived.Test.YtiemjcchlfbglaaBcE
import Derived.KernelRfl
namespace Go.Proofs.YtiemjcchlfbglaaE
open Go
set_option linter.unusedVariables false

def lGrd1 : LW := fun vals h Q => match vals, h with
  | [.int .i64 dev, .row nlo [.int .i64] dl, .int .i64 state, .int .i64 dir', .ptr 0 0, .int .i64 i], [.box [.int .i64 n, .int .i64 pi, .int .i64 e, .int .i64 g, .int .i64 fi, .row nl [.int .i64] ps, .int .i64 fk, .int .i64 fa, .int .i64 ff, .int .i64 ft, .nils, .nils, .int .i64 ro, .int .i64 sl, .int .i64 dir, .sl 1 0 1, .sl 2 0 m1, .sl 3 0 m2], .arr 2 9 [.str] [[.str z]], .arr 2 3 [.int .i64] sts, .arr 2 3 [.int .i64] dvs] => Hyp (0 ≤ i ∧ i ≤ n ∧ n ≤ 100 ∧ (m2 : Int) = n ∧ dvs.length = m2) ∧ ∀ dvs' : List (List AV), dvs'.length = m2 → Q (.exit 0) [.int .i64 dev, .int .i64 state, .int .i64 dir', .ptr 0 0] [.box [.int .i64 n, .int .i64 pi, .int .i64 e, .int .i64 g, .int .i64 fi, .row nl [.int .i64] ps, .int .i64 fk, .int .i64 fa, .int .i64 ff, .int .i64 ft, .nils, .nils, .int .i64 ro, .int .i64 sl, .int .i64 dir, .sl 1 0 1, .sl 2 0 m1, .sl 3 0 m2], .arr 2 9 [.str] [[.str z]], .arr 2 3 [.int .i64] sts, .arr 2 3 [.int .i64] dvs']
  | _, _ => False
def lGrd2 : LW := fun vals h Q => match vals, h with
  | [.ptr 0 0, .str want, .row nw [.str, .str, .str, .int .i64] rows, .int .i64 i], [.box [.int .i64 n, .int .i64 pi, .int .i64 e, .int .i64 g, .int .i64 fi, .row nl [.int .i64] ps, .int .i64 fk, .int .i64 fa, .int .i64 ff, .int .i64 ft, .nils, .nils, .int .i64 ro, .int .i64 sl, .int .i64 dir, .sl 1 0 1, .sl 2 0 m1, .sl 3 0 m2], .arr 0 9 [.str] [[.str z]], .arr 0 3 [.int .i64] sts, .arr 0 3 [.int .i64] dvs] => Hyp (0 ≤ i ∧ i ≤ rows.length ∧ rows.length ≤ 100 ∧ ∀ j : Int, 0 ≤ j → j < rows.length → j ≠ sl → s_outI rows j = want) ∧ Q (.exit 2) [.ptr 0 0, .row nw [.str, .str, .str, .int .i64] rows] [.box [.int .i64 n, .int .i64 pi, .int .i64 e, .int .i64 g, .int .i64 fi, .row nl [.int .i64] ps, .int .i64 fk, .int .i64 fa, .int .i64 ff, .int .i64 ft, .nils, .nils, .int .i64 ro, .int .i64 sl, .int .i64 dir, .sl 1 0 1, .sl 2 0 m1, .sl 3 0 m2], .arr 0 9 [.str] [[.str z]], .arr 0 3 [.int .i64] sts, .arr 0 3 [.int .i64] dvs]
  | _, _ => False
def W7L : Sp := ⟨V4.fn, [(7, 8, lGrd1), (7, 19, lGrd2)]⟩
end Go.Proofs.YtiemjcchlfbglaaE
/- What path mode says of functions, printed by a program of this session; the kernel holds each. -/
namespace Go.Proofs.YtiemjcchlfbglaaE
open Go
set_option maxRecDepth 100000
set_option linter.unusedVariables false
theorem nfGrd1 (n pi e g fi fk fa ff ft ro sl dir i : Int) (nl nw : Bool) (ps rows sts dvs : List (List AV)) (m1 m2 : Nat) (z : ByteArray) (dir' dev state : Int) (nlo : Bool) (dl : List (List AV)) (Q : Ex → List AV → List AObj → Prop) : lpBody Try.prog H0 V4 6 6 7 8 [.int .i64 dev, .row nlo [.int .i64] dl, .int .i64 state, .int .i64 dir', .ptr 0 0, .int .i64 i] [.box [.int .i64 n, .int .i64 pi, .int .i64 e, .int .i64 g, .int .i64 fi, .row nl [.int .i64] ps, .int .i64 fk, .int .i64 fa, .int .i64 ff, .int .i64 ft, .nils, .nils, .int .i64 ro, .int .i64 sl, .int .i64 dir, .sl 1 0 1, .sl 2 0 m1, .sl 3 0 m2], .arr 2 9 [.str] [[.str z]], .arr 2 3 [.int .i64] sts, .arr 2 3 [.int .i64] dvs] Q = (
br (decide (i < n))
 (br (decide (i < (↑dl.length : Int)))
  (chk ((0 : Int) ≤ i ∧ i < (↑dl.length : Int)) (chk ((0 : Int) ≤ i ∧ i < (↑m2 : Int)) (chk ((0 : Nat) + i.toNat < dvs.length) (Q (Ex.nrm) ([AV.int IntKind.i64 dev, AV.row nlo [K.int IntKind.i64] dl, AV.int IntKind.i64 state, AV.int IntKind.i64 dir',
  AV.ptr (0 : Nat) (0 : Nat), AV.int IntKind.i64 (IntKind.i64.wrap (i + (1 : Int)))]) ([AObj.box
    [AV.int IntKind.i64 n, AV.int IntKind.i64 pi, AV.int IntKind.i64 e, AV.int IntKind.i64 g, AV.int IntKind.i64 fi,
      AV.row nl [K.int IntKind.i64] ps, AV.int IntKind.i64 fk, AV.int IntKind.i64 fa, AV.int IntKind.i64 ff,
      AV.int IntKind.i64 ft, AV.nils, AV.nils, AV.int IntKind.i64 ro, AV.int IntKind.i64 sl, AV.int IntKind.i64 dir,
      AV.sl (1 : Nat) (0 : Nat) (1 : Nat), AV.sl (2 : Nat) (0 : Nat) m1, AV.sl (3 : Nat) (0 : Nat) m2],
  AObj.arr (2 : Nat) (9 : Nat) [K.str] [[AV.str z]], AObj.arr (2 : Nat) (3 : Nat) [K.int IntKind.i64] sts,
  AObj.arr (2 : Nat) (3 : Nat) [K.int IntKind.i64]
    (dvs.set ((0 : Nat) + i.toNat)
      (AV.int IntKind.i64 (((dl.getD i.toNat []).getD (0 : Nat) AV.gone).toI.tmod (1073741824 : Int)) ::
        List.drop ((0 : Nat) + (1 : Nat)) (dvs.getD ((0 : Nat) + i.toNat) [])))])))))
  (Q (Ex.exit (0 : Nat)) ([AV.int IntKind.i64 dev, AV.int IntKind.i64 state, AV.int IntKind.i64 dir', AV.ptr (0 : Nat) (0 : Nat)]) ([AObj.box
    [AV.int IntKind.i64 n, AV.int IntKind.i64 pi, AV.int IntKind.i64 e, AV.int IntKind.i64 g, AV.int IntKind.i64 fi,
      AV.row nl [K.int IntKind.i64] ps, AV.int IntKind.i64 fk, AV.int IntKind.i64 fa, AV.int IntKind.i64 ff,
      AV.int IntKind.i64 ft, AV.nils, AV.nils, AV.int IntKind.i64 ro, AV.int IntKind.i64 sl, AV.int IntKind.i64 dir,
      AV.sl (1 : Nat) (0 : Nat) (1 : Nat), AV.sl (2 : Nat) (0 : Nat) m1, AV.sl (3 : Nat) (0 : Nat) m2],
  AObj.arr (2 : Nat) (9 : Nat) [K.str] [[AV.str z]], AObj.arr (2 : Nat) (3 : Nat) [K.int IntKind.i64] sts,
  AObj.arr (2 : Nat) (3 : Nat) [K.int IntKind.i64] dvs])))
 (Q (Ex.exit (0 : Nat)) ([AV.int IntKind.i64 dev, AV.int IntKind.i64 state, AV.int IntKind.i64 dir', AV.ptr (0 : Nat) (0 : Nat)]) ([AObj.box
    [AV.int IntKind.i64 n, AV.int IntKind.i64 pi, AV.int IntKind.i64 e, AV.int IntKind.i64 g, AV.int IntKind.i64 fi,
      AV.row nl [K.int IntKind.i64] ps, AV.int IntKind.i64 fk, AV.int IntKind.i64 fa, AV.int IntKind.i64 ff,
      AV.int IntKind.i64 ft, AV.nils, AV.nils, AV.int IntKind.i64 ro, AV.int IntKind.i64 sl, AV.int IntKind.i64 dir,
      AV.sl (1 : Nat) (0 : Nat) (1 : Nat), AV.sl (2 : Nat) (0 : Nat) m1, AV.sl (3 : Nat) (0 : Nat) m2],
  AObj.arr (2 : Nat) (9 : Nat) [K.str] [[AV.str z]], AObj.arr (2 : Nat) (3 : Nat) [K.int IntKind.i64] sts,
  AObj.arr (2 : Nat) (3 : Nat) [K.int IntKind.i64] dvs]))) := by kernel_rfl
theorem nfGrd2 (n pi e g fi fk fa ff ft ro sl dir i : Int) (nl nw : Bool) (ps rows sts dvs : List (List AV)) (m1 m2 : Nat) (z : ByteArray) (want : ByteArray) (Q : Ex → List AV → List AObj → Prop) : lpBody Try.prog H0 V4 6 6 7 19 [.ptr 0 0, .str want, .row nw [.str, .str, .str, .int .i64] rows, .int .i64 i] [.box [.int .i64 n, .int .i64 pi, .int .i64 e, .int .i64 g, .int .i64 fi, .row nl [.int .i64] ps, .int .i64 fk, .int .i64 fa, .int .i64 ff, .int .i64 ft, .nils, .nils, .int .i64 ro, .int .i64 sl, .int .i64 dir, .sl 1 0 1, .sl 2 0 m1, .sl 3 0 m2], .arr 0 9 [.str] [[.str z]], .arr 0 3 [.int .i64] sts, .arr 0 3 [.int .i64] dvs] Q = (
br (decide (i < (↑rows.length : Int)))
 (br (i != sl)
  (chk ((0 : Int) ≤ i ∧ i < (↑rows.length : Int)) (br (!((rows.getD i.toNat []).getD (2 : Nat) AV.gone).toS.toList == want.toList)
   (Q (Ex.ret) ([AV.bool false]) ([]))
   (Q (Ex.nrm) ([AV.ptr (0 : Nat) (0 : Nat), AV.str want, AV.row nw [K.str, K.str, K.str, K.int IntKind.i64] rows,
  AV.int IntKind.i64 (IntKind.i64.wrap (i + (1 : Int)))]) ([AObj.box
    [AV.int IntKind.i64 n, AV.int IntKind.i64 pi, AV.int IntKind.i64 e, AV.int IntKind.i64 g, AV.int IntKind.i64 fi,
      AV.row nl [K.int IntKind.i64] ps, AV.int IntKind.i64 fk, AV.int IntKind.i64 fa, AV.int IntKind.i64 ff,
      AV.int IntKind.i64 ft, AV.nils, AV.nils, AV.int IntKind.i64 ro, AV.int IntKind.i64 sl, AV.int IntKind.i64 dir,
      AV.sl (1 : Nat) (0 : Nat) (1 : Nat), AV.sl (2 : Nat) (0 : Nat) m1, AV.sl (3 : Nat) (0 : Nat) m2],
  AObj.arr (0 : Nat) (9 : Nat) [K.str] [[AV.str z]], AObj.arr (0 : Nat) (3 : Nat) [K.int IntKind.i64] sts,
  AObj.arr (0 : Nat) (3 : Nat) [K.int IntKind.i64] dvs]))))
  (Q (Ex.nrm) ([AV.ptr (0 : Nat) (0 : Nat), AV.str want, AV.row nw [K.str, K.str, K.str, K.int IntKind.i64] rows,
  AV.int IntKind.i64 (IntKind.i64.wrap (i + (1 : Int)))]) ([AObj.box
    [AV.int IntKind.i64 n, AV.int IntKind.i64 pi, AV.int IntKind.i64 e, AV.int IntKind.i64 g, AV.int IntKind.i64 fi,
      AV.row nl [K.int IntKind.i64] ps, AV.int IntKind.i64 fk, AV.int IntKind.i64 fa, AV.int IntKind.i64 ff,
      AV.int IntKind.i64 ft, AV.nils, AV.nils, AV.int IntKind.i64 ro, AV.int IntKind.i64 sl, AV.int IntKind.i64 dir,
      AV.sl (1 : Nat) (0 : Nat) (1 : Nat), AV.sl (2 : Nat) (0 : Nat) m1, AV.sl (3 : Nat) (0 : Nat) m2],
  AObj.arr (0 : Nat) (9 : Nat) [K.str] [[AV.str z]], AObj.arr (0 : Nat) (3 : Nat) [K.int IntKind.i64] sts,
  AObj.arr (0 : Nat) (3 : Nat) [K.int IntKind.i64] dvs])))
 (Q (Ex.exit (2 : Nat)) ([AV.ptr (0 : Nat) (0 : Nat), AV.row nw [K.str, K.str, K.str, K.int IntKind.i64] rows]) ([AObj.box
    [AV.int IntKind.i64 n, AV.int IntKind.i64 pi, AV.int IntKind.i64 e, AV.int IntKind.i64 g, AV.int IntKind.i64 fi,
      AV.row nl [K.int IntKind.i64] ps, AV.int IntKind.i64 fk, AV.int IntKind.i64 fa, AV.int IntKind.i64 ff,
      AV.int IntKind.i64 ft, AV.nils, AV.nils, AV.int IntKind.i64 ro, AV.int IntKind.i64 sl, AV.int IntKind.i64 dir,
      AV.sl (1 : Nat) (0 : Nat) (1 : Nat), AV.sl (2 : Nat) (0 : Nat) m1, AV.sl (3 : Nat) (0 : Nat) m2],
  AObj.arr (0 : Nat) (9 : Nat) [K.str] [[AV.str z]], AObj.arr (0 : Nat) (3 : Nat) [K.int IntKind.i64] sts,
  AObj.arr (0 : Nat) (3 : Nat) [K.int IntKind.i64] dvs]))) := by kernel_rfl
theorem nfGrd (n pi e g fi : Int) (nl : Bool) (ps : List (List AV)) (slot dev : Int) (nlo : Bool) (dl : List (List AV)) (state : Int) (k r sl pk pv : Int) (nl2 : Bool) (ec : List (List AV)) (nl3 : Bool) (ns : List (List AV)) (up : Bool) (Q : AV × List AObj → Prop) : inlW Try.prog H0 W7L 6 (InO Try.prog H0 W7L 6 6) 7 [cf n pi e g fi nl ps, .int .i64 slot, .int .i64 dev, .row nlo [.int .i64] dl, .int .i64 state, .agg [.int .i64 k, .int .i64 r, .int .i64 sl, .int .i64 pk, .int .i64 pv, .row nl2 [.int .i64, .int .i64] ec], .row nl3 [.int .i64] ns, .bool up] [] Q = (
br (!up)
 ((∀ (n101 : Int),
 (∀ (pi102 : Int),
 (∀ (e103 : Int),
 (∀ (g104 : Int),
 (∀ (fi105 : Int),
 (∀ (nl106 : Bool),
 (∀ (qs107 : List Int),
 (∀ (m108 : Nat),
 (∀ (z109 : ByteArray),
 ((s_made n101 pi102 e103 g104 fi105 qs107 ∧
  (↑m108 : Int) = n101 ∧ s_clean z109 = z109 ∧ (0 : Nat) < z109.size ∧ z109.size ≤ (1000 : Nat)) →
 ((Hyp ((0 : Int) ≤ (0 : Int) ∧
  (0 : Int) ≤ n101 ∧ n101 ≤ (100 : Int) ∧ (↑m108 : Int) = n101 ∧ (s_rep m108 (0 : Int)).length = m108)) ∧
 ((∀ (dvs'112 : List (List AV)),
 ((dvs'112.length = m108) →
 ((Hyp ((0 : Int) < n101 ∧
  n101 ≤ (1000000 : Int) ∧
    (-1000000 : Int) ≤ s_rem slot n101 ∧
      s_rem slot n101 ≤ (1000000 : Int) ∧ (-1000000 : Int) ≤ (-1 : Int) ∧ (-1 : Int) ≤ (1000000 : Int))) ∧
 (chk ((0 : Int) < IntKind.i64.wrap ((8 : Int) * pi102) ∧ IntKind.i64.wrap ((8 : Int) * pi102) < (9223372036854775808 : Int)) (chk ((0 : Int) ≤ s_rem (s_rem slot n101 + (-1 : Int)) n101 ∧ s_rem (s_rem slot n101 + (-1 : Int)) n101 < (↑m108 : Int)) (chk ((0 : Nat) + (s_rem (s_rem slot n101 + (-1 : Int)) n101).toNat < dvs'112.length) (chk ((0 : Int) ≤ s_rem (s_rem slot n101 + (-1 : Int)) n101 ∧ s_rem (s_rem slot n101 + (-1 : Int)) n101 < (↑m108 : Int)) (chk ((0 : Nat) + (s_rem (s_rem slot n101 + (-1 : Int)) n101).toNat < (s_rep m108 (4 : Int)).length) (chk ((0 : Int) ≤ s_rem (s_rem slot n101 + (-1 : Int)) n101 ∧ s_rem (s_rem slot n101 + (-1 : Int)) n101 < (↑m108 : Int)) (chk ((0 : Nat) + (s_rem (s_rem slot n101 + (-1 : Int)) n101).toNat <
  ((s_rep m108 (4 : Int)).set ((0 : Nat) + (s_rem (s_rem slot n101 + (-1 : Int)) n101).toNat)
      (AV.int IntKind.i64 (IntKind.i64.wrap ((1 : Int) + s_rem state (4 : Int))) ::
        List.drop ((0 : Nat) + (1 : Nat))
          ((s_rep m108 (4 : Int)).getD ((0 : Nat) + (s_rem (s_rem slot n101 + (-1 : Int)) n101).toNat) []))).length) (br (((((s_rep m108 (4 : Int)).set ((0 : Nat) + (s_rem (s_rem slot n101 + (-1 : Int)) n101).toNat)
              (AV.int IntKind.i64 (IntKind.i64.wrap ((1 : Int) + s_rem state (4 : Int))) ::
                List.drop ((0 : Nat) + (1 : Nat))
                  ((s_rep m108 (4 : Int)).getD ((0 : Nat) + (s_rem (s_rem slot n101 + (-1 : Int)) n101).toNat)
                    []))).getD
          ((0 : Nat) + (s_rem (s_rem slot n101 + (-1 : Int)) n101).toNat) []).getD
      (0 : Nat) AV.gone).toI ==
  (4 : Int))
  (chk ((0 : Int) ≤ s_rem (s_rem slot n101 + (-1 : Int)) n101 ∧ s_rem (s_rem slot n101 + (-1 : Int)) n101 < (↑m108 : Int)) (chk ((0 : Nat) + (s_rem (s_rem slot n101 + (-1 : Int)) n101).toNat <
  (dvs'112.set ((0 : Nat) + (s_rem (s_rem slot n101 + (-1 : Int)) n101).toNat)
      (AV.int IntKind.i64
          (IntKind.i64.wrap
            (s_rem dev (IntKind.i64.wrap ((8 : Int) * pi102)) - IntKind.i64.wrap ((4 : Int) * pi102))) ::
        List.drop ((0 : Nat) + (1 : Nat))
          (dvs'112.getD ((0 : Nat) + (s_rem (s_rem slot n101 + (-1 : Int)) n101).toNat) []))).length) (br (decide
  ((((dvs'112.set ((0 : Nat) + (s_rem (s_rem slot n101 + (-1 : Int)) n101).toNat)
                (AV.int IntKind.i64
                    (IntKind.i64.wrap
                      (s_rem dev (IntKind.i64.wrap ((8 : Int) * pi102)) - IntKind.i64.wrap ((4 : Int) * pi102))) ::
                  List.drop ((0 : Nat) + (1 : Nat))
                    (dvs'112.getD ((0 : Nat) + (s_rem (s_rem slot n101 + (-1 : Int)) n101).toNat) []))).getD
            ((0 : Nat) + (s_rem (s_rem slot n101 + (-1 : Int)) n101).toNat) []).getD
        (0 : Nat) AV.gone).toI >
    IntKind.i64.wrap ((2 : Int) * pi102)))
   (chk ((0 : Nat) + m108 ≤
  ((s_rep m108 (4 : Int)).set ((0 : Nat) + (s_rem (s_rem slot n101 + (-1 : Int)) n101).toNat)
      (AV.int IntKind.i64 (IntKind.i64.wrap ((1 : Int) + s_rem state (4 : Int))) ::
        List.drop ((0 : Nat) + (1 : Nat))
          ((s_rep m108 (4 : Int)).getD ((0 : Nat) + (s_rem (s_rem slot n101 + (-1 : Int)) n101).toNat) []))).length) (chk ((0 : Nat) + m108 ≤
  (dvs'112.set ((0 : Nat) + (s_rem (s_rem slot n101 + (-1 : Int)) n101).toNat)
      (AV.int IntKind.i64
          (IntKind.i64.wrap
            (s_rem dev (IntKind.i64.wrap ((8 : Int) * pi102)) - IntKind.i64.wrap ((4 : Int) * pi102))) ::
        List.drop ((0 : Nat) + (1 : Nat))
          (dvs'112.getD ((0 : Nat) + (s_rem (s_rem slot n101 + (-1 : Int)) n101).toNat) []))).length) (((Hyp (s_confOk n101 pi102 e103 g104 fi105
      (List.map (fun r => (r.getD (0 : Nat) AV.gone).toI) (List.map (fun n => [AV.int IntKind.i64 n]) qs107)) =
    true ∧
  ([] : List (List AV)) = [] ∧
    s_runOk
        { n := n101, dir := (-1 : Int), kind := (0 : Int), at_ := (0 : Int), fr := (0 : Int), to_ := (1000 : Int),
          ro := (0 : Int), sl := s_rem slot n101, pi := pi102,
          sts :=
            List.take m108
              (List.drop (0 : Nat)
                ((s_rep m108 (4 : Int)).set ((0 : Nat) + (s_rem (s_rem slot n101 + (-1 : Int)) n101).toNat)
                  (AV.int IntKind.i64 (IntKind.i64.wrap ((1 : Int) + s_rem state (4 : Int))) ::
                    List.drop ((0 : Nat) + (1 : Nat))
                      ((s_rep m108 (4 : Int)).getD ((0 : Nat) + (s_rem (s_rem slot n101 + (-1 : Int)) n101).toNat)
                        [])))),
          dvs :=
            List.take m108
              (List.drop (0 : Nat)
                (dvs'112.set ((0 : Nat) + (s_rem (s_rem slot n101 + (-1 : Int)) n101).toNat)
                  (AV.int IntKind.i64
                      (IntKind.i64.wrap
                        (s_rem dev (IntKind.i64.wrap ((8 : Int) * pi102)) - IntKind.i64.wrap ((4 : Int) * pi102))) ::
                    List.drop ((0 : Nat) + (1 : Nat))
                      (dvs'112.getD ((0 : Nat) + (s_rem (s_rem slot n101 + (-1 : Int)) n101).toNat) [])))) } ∧
      z109.size ≤ (1000000 : Nat))) ∧
   ((∀ (rows129 : List (List AV)),
   ((rows129 =
  s_runS
    { n := n101, dir := (-1 : Int), kind := (0 : Int), at_ := (0 : Int), fr := (0 : Int), to_ := (1000 : Int),
      ro := (0 : Int), sl := s_rem slot n101, pi := pi102,
      sts :=
        List.take m108
          (List.drop (0 : Nat)
            ((s_rep m108 (4 : Int)).set ((0 : Nat) + (s_rem (s_rem slot n101 + (-1 : Int)) n101).toNat)
              (AV.int IntKind.i64 (IntKind.i64.wrap ((1 : Int) + s_rem state (4 : Int))) ::
                List.drop ((0 : Nat) + (1 : Nat))
                  ((s_rep m108 (4 : Int)).getD ((0 : Nat) + (s_rem (s_rem slot n101 + (-1 : Int)) n101).toNat) [])))),
      dvs :=
        List.take m108
          (List.drop (0 : Nat)
            (dvs'112.set ((0 : Nat) + (s_rem (s_rem slot n101 + (-1 : Int)) n101).toNat)
              (AV.int IntKind.i64
                  (IntKind.i64.wrap
                    (s_rem dev (IntKind.i64.wrap ((8 : Int) * pi102)) - IntKind.i64.wrap ((4 : Int) * pi102))) ::
                List.drop ((0 : Nat) + (1 : Nat))
                  (dvs'112.getD ((0 : Nat) + (s_rem (s_rem slot n101 + (-1 : Int)) n101).toNat) [])))) }
    z109 (n101 - (1 : Int)).toNat) →
   ((Hyp ((0 : Int) ≤ (0 : Int) ∧
  (0 : Int) ≤ (↑rows129.length : Int) ∧
    rows129.length ≤ (100 : Nat) ∧
      ∀ (j : Int),
        (0 : Int) ≤ j → j < (↑rows129.length : Int) → j ≠ s_rem slot n101 → s_outI rows129 j = (ByteArray.mk #[]))) ∧
   (Q ((AV.bool ((↑rows129.length : Int) == n101), [])))))))))))
   (chk ((0 : Int) ≤ s_rem (s_rem slot n101 + (-1 : Int)) n101 ∧ s_rem (s_rem slot n101 + (-1 : Int)) n101 < (↑m108 : Int)) (chk ((0 : Nat) + (s_rem (s_rem slot n101 + (-1 : Int)) n101).toNat <
  (dvs'112.set ((0 : Nat) + (s_rem (s_rem slot n101 + (-1 : Int)) n101).toNat)
      (AV.int IntKind.i64
          (IntKind.i64.wrap
            (s_rem dev (IntKind.i64.wrap ((8 : Int) * pi102)) - IntKind.i64.wrap ((4 : Int) * pi102))) ::
        List.drop ((0 : Nat) + (1 : Nat))
          (dvs'112.getD ((0 : Nat) + (s_rem (s_rem slot n101 + (-1 : Int)) n101).toNat) []))).length) (br (decide
  ((((dvs'112.set ((0 : Nat) + (s_rem (s_rem slot n101 + (-1 : Int)) n101).toNat)
                (AV.int IntKind.i64
                    (IntKind.i64.wrap
                      (s_rem dev (IntKind.i64.wrap ((8 : Int) * pi102)) - IntKind.i64.wrap ((4 : Int) * pi102))) ::
                  List.drop ((0 : Nat) + (1 : Nat))
                    (dvs'112.getD ((0 : Nat) + (s_rem (s_rem slot n101 + (-1 : Int)) n101).toNat) []))).getD
            ((0 : Nat) + (s_rem (s_rem slot n101 + (-1 : Int)) n101).toNat) []).getD
        (0 : Nat) AV.gone).toI <
    IntKind.i64.wrap ((0 : Int) - IntKind.i64.wrap ((2 : Int) * pi102))))
    (chk ((0 : Nat) + m108 ≤
  ((s_rep m108 (4 : Int)).set ((0 : Nat) + (s_rem (s_rem slot n101 + (-1 : Int)) n101).toNat)
      (AV.int IntKind.i64 (IntKind.i64.wrap ((1 : Int) + s_rem state (4 : Int))) ::
        List.drop ((0 : Nat) + (1 : Nat))
          ((s_rep m108 (4 : Int)).getD ((0 : Nat) + (s_rem (s_rem slot n101 + (-1 : Int)) n101).toNat) []))).length) (chk ((0 : Nat) + m108 ≤
  (dvs'112.set ((0 : Nat) + (s_rem (s_rem slot n101 + (-1 : Int)) n101).toNat)
      (AV.int IntKind.i64
          (IntKind.i64.wrap
            (s_rem dev (IntKind.i64.wrap ((8 : Int) * pi102)) - IntKind.i64.wrap ((4 : Int) * pi102))) ::
        List.drop ((0 : Nat) + (1 : Nat))
          (dvs'112.getD ((0 : Nat) + (s_rem (s_rem slot n101 + (-1 : Int)) n101).toNat) []))).length) (((Hyp (s_confOk n101 pi102 e103 g104 fi105
      (List.map (fun r => (r.getD (0 : Nat) AV.gone).toI) (List.map (fun n => [AV.int IntKind.i64 n]) qs107)) =
    true ∧
  ([] : List (List AV)) = [] ∧
    s_runOk
        { n := n101, dir := (-1 : Int), kind := (0 : Int), at_ := (0 : Int), fr := (0 : Int), to_ := (1000 : Int),
          ro := (0 : Int), sl := s_rem slot n101, pi := pi102,
          sts :=
            List.take m108
              (List.drop (0 : Nat)
                ((s_rep m108 (4 : Int)).set ((0 : Nat) + (s_rem (s_rem slot n101 + (-1 : Int)) n101).toNat)
                  (AV.int IntKind.i64 (IntKind.i64.wrap ((1 : Int) + s_rem state (4 : Int))) ::
                    List.drop ((0 : Nat) + (1 : Nat))
                      ((s_rep m108 (4 : Int)).getD ((0 : Nat) + (s_rem (s_rem slot n101 + (-1 : Int)) n101).toNat)
                        [])))),
          dvs :=
            List.take m108
              (List.drop (0 : Nat)
                (dvs'112.set ((0 : Nat) + (s_rem (s_rem slot n101 + (-1 : Int)) n101).toNat)
                  (AV.int IntKind.i64
                      (IntKind.i64.wrap
                        (s_rem dev (IntKind.i64.wrap ((8 : Int) * pi102)) - IntKind.i64.wrap ((4 : Int) * pi102))) ::
                    List.drop ((0 : Nat) + (1 : Nat))
                      (dvs'112.getD ((0 : Nat) + (s_rem (s_rem slot n101 + (-1 : Int)) n101).toNat) [])))) } ∧
      z109.size ≤ (1000000 : Nat))) ∧
    ((∀ (rows132 : List (List AV)),
    ((rows132 =
  s_runS
    { n := n101, dir := (-1 : Int), kind := (0 : Int), at_ := (0 : Int), fr := (0 : Int), to_ := (1000 : Int),
      ro := (0 : Int), sl := s_rem slot n101, pi := pi102,
      sts :=
        List.take m108
          (List.drop (0 : Nat)
            ((s_rep m108 (4 : Int)).set ((0 : Nat) + (s_rem (s_rem slot n101 + (-1 : Int)) n101).toNat)
              (AV.int IntKind.i64 (IntKind.i64.wrap ((1 : Int) + s_rem state (4 : Int))) ::
                List.drop ((0 : Nat) + (1 : Nat))
                  ((s_rep m108 (4 : Int)).getD ((0 : Nat) + (s_rem (s_rem slot n101 + (-1 : Int)) n101).toNat) [])))),
      dvs :=
        List.take m108
          (List.drop (0 : Nat)
            (dvs'112.set ((0 : Nat) + (s_rem (s_rem slot n101 + (-1 : Int)) n101).toNat)
              (AV.int IntKind.i64
                  (IntKind.i64.wrap
                    (s_rem dev (IntKind.i64.wrap ((8 : Int) * pi102)) - IntKind.i64.wrap ((4 : Int) * pi102))) ::
                List.drop ((0 : Nat) + (1 : Nat))
                  (dvs'112.getD ((0 : Nat) + (s_rem (s_rem slot n101 + (-1 : Int)) n101).toNat) [])))) }
    z109 (n101 - (1 : Int)).toNat) →
    ((Hyp ((0 : Int) ≤ (0 : Int) ∧
  (0 : Int) ≤ (↑rows132.length : Int) ∧
    rows132.length ≤ (100 : Nat) ∧
      ∀ (j : Int),
        (0 : Int) ≤ j → j < (↑rows132.length : Int) → j ≠ s_rem slot n101 → s_outI rows132 j = (ByteArray.mk #[]))) ∧
    (Q ((AV.bool ((↑rows132.length : Int) == n101), [])))))))))))
    (chk ((0 : Nat) + m108 ≤
  ((s_rep m108 (4 : Int)).set ((0 : Nat) + (s_rem (s_rem slot n101 + (-1 : Int)) n101).toNat)
      (AV.int IntKind.i64 (IntKind.i64.wrap ((1 : Int) + s_rem state (4 : Int))) ::
        List.drop ((0 : Nat) + (1 : Nat))
          ((s_rep m108 (4 : Int)).getD ((0 : Nat) + (s_rem (s_rem slot n101 + (-1 : Int)) n101).toNat) []))).length) (chk ((0 : Nat) + m108 ≤
  (dvs'112.set ((0 : Nat) + (s_rem (s_rem slot n101 + (-1 : Int)) n101).toNat)
      (AV.int IntKind.i64
          (IntKind.i64.wrap
            (s_rem dev (IntKind.i64.wrap ((8 : Int) * pi102)) - IntKind.i64.wrap ((4 : Int) * pi102))) ::
        List.drop ((0 : Nat) + (1 : Nat))
          (dvs'112.getD ((0 : Nat) + (s_rem (s_rem slot n101 + (-1 : Int)) n101).toNat) []))).length) (((Hyp (s_confOk n101 pi102 e103 g104 fi105
      (List.map (fun r => (r.getD (0 : Nat) AV.gone).toI) (List.map (fun n => [AV.int IntKind.i64 n]) qs107)) =
    true ∧
  ([] : List (List AV)) = [] ∧
    s_runOk
        { n := n101, dir := (-1 : Int), kind := (0 : Int), at_ := (0 : Int), fr := (0 : Int), to_ := (1000 : Int),
          ro := (0 : Int), sl := s_rem slot n101, pi := pi102,
          sts :=
            List.take m108
              (List.drop (0 : Nat)
                ((s_rep m108 (4 : Int)).set ((0 : Nat) + (s_rem (s_rem slot n101 + (-1 : Int)) n101).toNat)
                  (AV.int IntKind.i64 (IntKind.i64.wrap ((1 : Int) + s_rem state (4 : Int))) ::
                    List.drop ((0 : Nat) + (1 : Nat))
                      ((s_rep m108 (4 : Int)).getD ((0 : Nat) + (s_rem (s_rem slot n101 + (-1 : Int)) n101).toNat)
                        [])))),
          dvs :=
            List.take m108
              (List.drop (0 : Nat)
                (dvs'112.set ((0 : Nat) + (s_rem (s_rem slot n101 + (-1 : Int)) n101).toNat)
                  (AV.int IntKind.i64
                      (IntKind.i64.wrap
                        (s_rem dev (IntKind.i64.wrap ((8 : Int) * pi102)) - IntKind.i64.wrap ((4 : Int) * pi102))) ::
                    List.drop ((0 : Nat) + (1 : Nat))
                      (dvs'112.getD ((0 : Nat) + (s_rem (s_rem slot n101 + (-1 : Int)) n101).toNat) [])))) } ∧
      z109.size ≤ (1000000 : Nat))) ∧
    ((∀ (rows132 : List (List AV)),
    ((rows132 =
  s_runS
    { n := n101, dir := (-1 : Int), kind := (0 : Int), at_ := (0 : Int), fr := (0 : Int), to_ := (1000 : Int),
      ro := (0 : Int), sl := s_rem slot n101, pi := pi102,
      sts :=
        List.take m108
          (List.drop (0 : Nat)
            ((s_rep m108 (4 : Int)).set ((0 : Nat) + (s_rem (s_rem slot n101 + (-1 : Int)) n101).toNat)
              (AV.int IntKind.i64 (IntKind.i64.wrap ((1 : Int) + s_rem state (4 : Int))) ::
                List.drop ((0 : Nat) + (1 : Nat))
                  ((s_rep m108 (4 : Int)).getD ((0 : Nat) + (s_rem (s_rem slot n101 + (-1 : Int)) n101).toNat) [])))),
      dvs :=
        List.take m108
          (List.drop (0 : Nat)
            (dvs'112.set ((0 : Nat) + (s_rem (s_rem slot n101 + (-1 : Int)) n101).toNat)
              (AV.int IntKind.i64
                  (IntKind.i64.wrap
                    (s_rem dev (IntKind.i64.wrap ((8 : Int) * pi102)) - IntKind.i64.wrap ((4 : Int) * pi102))) ::
                List.drop ((0 : Nat) + (1 : Nat))
                  (dvs'112.getD ((0 : Nat) + (s_rem (s_rem slot n101 + (-1 : Int)) n101).toNat) [])))) }
    z109 (n101 - (1 : Int)).toNat) →
    ((Hyp ((0 : Int) ≤ (0 : Int) ∧
  (0 : Int) ≤ (↑rows132.length : Int) ∧
    rows132.length ≤ (100 : Nat) ∧
      ∀ (j : Int),
        (0 : Int) ≤ j →
          j < (↑rows132.length : Int) →
            j ≠ s_rem slot n101 →
              s_outI rows132 j =
                (([[AV.str z109]].getD ((0 : Nat) + Int.toNat (0 : Int)) []).getD ((0 : Nat) + nat_lit 0) AV.gone).toS)) ∧
    (Q ((AV.bool ((↑rows132.length : Int) == n101), [])))))))))))))))))
  (chk ((0 : Nat) + m108 ≤
  ((s_rep m108 (4 : Int)).set ((0 : Nat) + (s_rem (s_rem slot n101 + (-1 : Int)) n101).toNat)
      (AV.int IntKind.i64 (IntKind.i64.wrap ((1 : Int) + s_rem state (4 : Int))) ::
        List.drop ((0 : Nat) + (1 : Nat))
          ((s_rep m108 (4 : Int)).getD ((0 : Nat) + (s_rem (s_rem slot n101 + (-1 : Int)) n101).toNat) []))).length) (chk ((0 : Nat) + m108 ≤
  (dvs'112.set ((0 : Nat) + (s_rem (s_rem slot n101 + (-1 : Int)) n101).toNat)
      (AV.int IntKind.i64
          (IntKind.i64.wrap
            (s_rem dev (IntKind.i64.wrap ((8 : Int) * pi102)) - IntKind.i64.wrap ((4 : Int) * pi102))) ::
        List.drop ((0 : Nat) + (1 : Nat))
          (dvs'112.getD ((0 : Nat) + (s_rem (s_rem slot n101 + (-1 : Int)) n101).toNat) []))).length) (((Hyp (s_confOk n101 pi102 e103 g104 fi105
      (List.map (fun r => (r.getD (0 : Nat) AV.gone).toI) (List.map (fun n => [AV.int IntKind.i64 n]) qs107)) =
    true ∧
  ([] : List (List AV)) = [] ∧
    s_runOk
        { n := n101, dir := (-1 : Int), kind := (0 : Int), at_ := (0 : Int), fr := (0 : Int), to_ := (1000 : Int),
          ro := (0 : Int), sl := s_rem slot n101, pi := pi102,
          sts :=
            List.take m108
              (List.drop (0 : Nat)
                ((s_rep m108 (4 : Int)).set ((0 : Nat) + (s_rem (s_rem slot n101 + (-1 : Int)) n101).toNat)
                  (AV.int IntKind.i64 (IntKind.i64.wrap ((1 : Int) + s_rem state (4 : Int))) ::
                    List.drop ((0 : Nat) + (1 : Nat))
                      ((s_rep m108 (4 : Int)).getD ((0 : Nat) + (s_rem (s_rem slot n101 + (-1 : Int)) n101).toNat)
                        [])))),
          dvs :=
            List.take m108
              (List.drop (0 : Nat)
                (dvs'112.set ((0 : Nat) + (s_rem (s_rem slot n101 + (-1 : Int)) n101).toNat)
                  (AV.int IntKind.i64
                      (IntKind.i64.wrap
                        (s_rem dev (IntKind.i64.wrap ((8 : Int) * pi102)) - IntKind.i64.wrap ((4 : Int) * pi102))) ::
                    List.drop ((0 : Nat) + (1 : Nat))
                      (dvs'112.getD ((0 : Nat) + (s_rem (s_rem slot n101 + (-1 : Int)) n101).toNat) [])))) } ∧
      z109.size ≤ (1000000 : Nat))) ∧
  ((∀ (rows126 : List (List AV)),
  ((rows126 =
  s_runS
    { n := n101, dir := (-1 : Int), kind := (0 : Int), at_ := (0 : Int), fr := (0 : Int), to_ := (1000 : Int),
      ro := (0 : Int), sl := s_rem slot n101, pi := pi102,
      sts :=
        List.take m108
          (List.drop (0 : Nat)
            ((s_rep m108 (4 : Int)).set ((0 : Nat) + (s_rem (s_rem slot n101 + (-1 : Int)) n101).toNat)
              (AV.int IntKind.i64 (IntKind.i64.wrap ((1 : Int) + s_rem state (4 : Int))) ::
                List.drop ((0 : Nat) + (1 : Nat))
                  ((s_rep m108 (4 : Int)).getD ((0 : Nat) + (s_rem (s_rem slot n101 + (-1 : Int)) n101).toNat) [])))),
      dvs :=
        List.take m108
          (List.drop (0 : Nat)
            (dvs'112.set ((0 : Nat) + (s_rem (s_rem slot n101 + (-1 : Int)) n101).toNat)
              (AV.int IntKind.i64
                  (IntKind.i64.wrap
                    (s_rem dev (IntKind.i64.wrap ((8 : Int) * pi102)) - IntKind.i64.wrap ((4 : Int) * pi102))) ::
                List.drop ((0 : Nat) + (1 : Nat))
                  (dvs'112.getD ((0 : Nat) + (s_rem (s_rem slot n101 + (-1 : Int)) n101).toNat) [])))) }
    z109 (n101 - (1 : Int)).toNat) →
  ((Hyp ((0 : Int) ≤ (0 : Int) ∧
  (0 : Int) ≤ (↑rows126.length : Int) ∧
    rows126.length ≤ (100 : Nat) ∧
      ∀ (j : Int),
        (0 : Int) ≤ j →
          j < (↑rows126.length : Int) →
            j ≠ s_rem slot n101 →
              s_outI rows126 j =
                (([[AV.str z109]].getD ((0 : Nat) + Int.toNat (0 : Int)) []).getD ((0 : Nat) + nat_lit 0) AV.gone).toS)) ∧
  (Q ((AV.bool ((↑rows126.length : Int) == n101), [])))))))))))))))))))))))))))))))))))
 ((∀ (n101 : Int),
 (∀ (pi102 : Int),
 (∀ (e103 : Int),
 (∀ (g104 : Int),
 (∀ (fi105 : Int),
 (∀ (nl106 : Bool),
 (∀ (qs107 : List Int),
 (∀ (m108 : Nat),
 (∀ (z109 : ByteArray),
 ((s_made n101 pi102 e103 g104 fi105 qs107 ∧
  (↑m108 : Int) = n101 ∧ s_clean z109 = z109 ∧ (0 : Nat) < z109.size ∧ z109.size ≤ (1000 : Nat)) →
 ((Hyp ((0 : Int) ≤ (0 : Int) ∧
  (0 : Int) ≤ n101 ∧ n101 ≤ (100 : Int) ∧ (↑m108 : Int) = n101 ∧ (s_rep m108 (0 : Int)).length = m108)) ∧
 ((∀ (dvs'112 : List (List AV)),
 ((dvs'112.length = m108) →
 ((Hyp ((0 : Int) < n101 ∧
  n101 ≤ (1000000 : Int) ∧
    (-1000000 : Int) ≤ s_rem slot n101 ∧
      s_rem slot n101 ≤ (1000000 : Int) ∧ (-1000000 : Int) ≤ (1 : Int) ∧ (1 : Int) ≤ (1000000 : Int))) ∧
 (chk ((0 : Int) < IntKind.i64.wrap ((8 : Int) * pi102) ∧ IntKind.i64.wrap ((8 : Int) * pi102) < (9223372036854775808 : Int)) (chk ((0 : Int) ≤ s_rem (s_rem slot n101 + (1 : Int)) n101 ∧ s_rem (s_rem slot n101 + (1 : Int)) n101 < (↑m108 : Int)) (chk ((0 : Nat) + (s_rem (s_rem slot n101 + (1 : Int)) n101).toNat < dvs'112.length) (chk ((0 : Int) ≤ s_rem (s_rem slot n101 + (1 : Int)) n101 ∧ s_rem (s_rem slot n101 + (1 : Int)) n101 < (↑m108 : Int)) (chk ((0 : Nat) + (s_rem (s_rem slot n101 + (1 : Int)) n101).toNat < (s_rep m108 (4 : Int)).length) (chk ((0 : Int) ≤ s_rem (s_rem slot n101 + (1 : Int)) n101 ∧ s_rem (s_rem slot n101 + (1 : Int)) n101 < (↑m108 : Int)) (chk ((0 : Nat) + (s_rem (s_rem slot n101 + (1 : Int)) n101).toNat <
  ((s_rep m108 (4 : Int)).set ((0 : Nat) + (s_rem (s_rem slot n101 + (1 : Int)) n101).toNat)
      (AV.int IntKind.i64 (IntKind.i64.wrap ((1 : Int) + s_rem state (4 : Int))) ::
        List.drop ((0 : Nat) + (1 : Nat))
          ((s_rep m108 (4 : Int)).getD ((0 : Nat) + (s_rem (s_rem slot n101 + (1 : Int)) n101).toNat) []))).length) (br (((((s_rep m108 (4 : Int)).set ((0 : Nat) + (s_rem (s_rem slot n101 + (1 : Int)) n101).toNat)
              (AV.int IntKind.i64 (IntKind.i64.wrap ((1 : Int) + s_rem state (4 : Int))) ::
                List.drop ((0 : Nat) + (1 : Nat))
                  ((s_rep m108 (4 : Int)).getD ((0 : Nat) + (s_rem (s_rem slot n101 + (1 : Int)) n101).toNat) []))).getD
          ((0 : Nat) + (s_rem (s_rem slot n101 + (1 : Int)) n101).toNat) []).getD
      (0 : Nat) AV.gone).toI ==
  (4 : Int))
  (chk ((0 : Int) ≤ s_rem (s_rem slot n101 + (1 : Int)) n101 ∧ s_rem (s_rem slot n101 + (1 : Int)) n101 < (↑m108 : Int)) (chk ((0 : Nat) + (s_rem (s_rem slot n101 + (1 : Int)) n101).toNat <
  (dvs'112.set ((0 : Nat) + (s_rem (s_rem slot n101 + (1 : Int)) n101).toNat)
      (AV.int IntKind.i64
          (IntKind.i64.wrap
            (s_rem dev (IntKind.i64.wrap ((8 : Int) * pi102)) - IntKind.i64.wrap ((4 : Int) * pi102))) ::
        List.drop ((0 : Nat) + (1 : Nat))
          (dvs'112.getD ((0 : Nat) + (s_rem (s_rem slot n101 + (1 : Int)) n101).toNat) []))).length) (br (decide
  ((((dvs'112.set ((0 : Nat) + (s_rem (s_rem slot n101 + (1 : Int)) n101).toNat)
                (AV.int IntKind.i64
                    (IntKind.i64.wrap
                      (s_rem dev (IntKind.i64.wrap ((8 : Int) * pi102)) - IntKind.i64.wrap ((4 : Int) * pi102))) ::
                  List.drop ((0 : Nat) + (1 : Nat))
                    (dvs'112.getD ((0 : Nat) + (s_rem (s_rem slot n101 + (1 : Int)) n101).toNat) []))).getD
            ((0 : Nat) + (s_rem (s_rem slot n101 + (1 : Int)) n101).toNat) []).getD
        (0 : Nat) AV.gone).toI >
    IntKind.i64.wrap ((2 : Int) * pi102)))
   (chk ((0 : Nat) + m108 ≤
  ((s_rep m108 (4 : Int)).set ((0 : Nat) + (s_rem (s_rem slot n101 + (1 : Int)) n101).toNat)
      (AV.int IntKind.i64 (IntKind.i64.wrap ((1 : Int) + s_rem state (4 : Int))) ::
        List.drop ((0 : Nat) + (1 : Nat))
          ((s_rep m108 (4 : Int)).getD ((0 : Nat) + (s_rem (s_rem slot n101 + (1 : Int)) n101).toNat) []))).length) (chk ((0 : Nat) + m108 ≤
  (dvs'112.set ((0 : Nat) + (s_rem (s_rem slot n101 + (1 : Int)) n101).toNat)
      (AV.int IntKind.i64
          (IntKind.i64.wrap
            (s_rem dev (IntKind.i64.wrap ((8 : Int) * pi102)) - IntKind.i64.wrap ((4 : Int) * pi102))) ::
        List.drop ((0 : Nat) + (1 : Nat))
          (dvs'112.getD ((0 : Nat) + (s_rem (s_rem slot n101 + (1 : Int)) n101).toNat) []))).length) (((Hyp (s_confOk n101 pi102 e103 g104 fi105
      (List.map (fun r => (r.getD (0 : Nat) AV.gone).toI) (List.map (fun n => [AV.int IntKind.i64 n]) qs107)) =
    true ∧
  ([] : List (List AV)) = [] ∧
    s_runOk
        { n := n101, dir := (1 : Int), kind := (0 : Int), at_ := (0 : Int), fr := (0 : Int), to_ := (1000 : Int),
          ro := (0 : Int), sl := s_rem slot n101, pi := pi102,
          sts :=
            List.take m108
              (List.drop (0 : Nat)
                ((s_rep m108 (4 : Int)).set ((0 : Nat) + (s_rem (s_rem slot n101 + (1 : Int)) n101).toNat)
                  (AV.int IntKind.i64 (IntKind.i64.wrap ((1 : Int) + s_rem state (4 : Int))) ::
                    List.drop ((0 : Nat) + (1 : Nat))
                      ((s_rep m108 (4 : Int)).getD ((0 : Nat) + (s_rem (s_rem slot n101 + (1 : Int)) n101).toNat)
                        [])))),
          dvs :=
            List.take m108
              (List.drop (0 : Nat)
                (dvs'112.set ((0 : Nat) + (s_rem (s_rem slot n101 + (1 : Int)) n101).toNat)
                  (AV.int IntKind.i64
                      (IntKind.i64.wrap
                        (s_rem dev (IntKind.i64.wrap ((8 : Int) * pi102)) - IntKind.i64.wrap ((4 : Int) * pi102))) ::
                    List.drop ((0 : Nat) + (1 : Nat))
                      (dvs'112.getD ((0 : Nat) + (s_rem (s_rem slot n101 + (1 : Int)) n101).toNat) [])))) } ∧
      z109.size ≤ (1000000 : Nat))) ∧
   ((∀ (rows129 : List (List AV)),
   ((rows129 =
  s_runS
    { n := n101, dir := (1 : Int), kind := (0 : Int), at_ := (0 : Int), fr := (0 : Int), to_ := (1000 : Int),
      ro := (0 : Int), sl := s_rem slot n101, pi := pi102,
      sts :=
        List.take m108
          (List.drop (0 : Nat)
            ((s_rep m108 (4 : Int)).set ((0 : Nat) + (s_rem (s_rem slot n101 + (1 : Int)) n101).toNat)
              (AV.int IntKind.i64 (IntKind.i64.wrap ((1 : Int) + s_rem state (4 : Int))) ::
                List.drop ((0 : Nat) + (1 : Nat))
                  ((s_rep m108 (4 : Int)).getD ((0 : Nat) + (s_rem (s_rem slot n101 + (1 : Int)) n101).toNat) [])))),
      dvs :=
        List.take m108
          (List.drop (0 : Nat)
            (dvs'112.set ((0 : Nat) + (s_rem (s_rem slot n101 + (1 : Int)) n101).toNat)
              (AV.int IntKind.i64
                  (IntKind.i64.wrap
                    (s_rem dev (IntKind.i64.wrap ((8 : Int) * pi102)) - IntKind.i64.wrap ((4 : Int) * pi102))) ::
                List.drop ((0 : Nat) + (1 : Nat))
                  (dvs'112.getD ((0 : Nat) + (s_rem (s_rem slot n101 + (1 : Int)) n101).toNat) [])))) }
    z109 (n101 - (1 : Int)).toNat) →
   ((Hyp ((0 : Int) ≤ (0 : Int) ∧
  (0 : Int) ≤ (↑rows129.length : Int) ∧
    rows129.length ≤ (100 : Nat) ∧
      ∀ (j : Int),
        (0 : Int) ≤ j → j < (↑rows129.length : Int) → j ≠ s_rem slot n101 → s_outI rows129 j = (ByteArray.mk #[]))) ∧
   (Q ((AV.bool ((↑rows129.length : Int) == n101), [])))))))))))
   (chk ((0 : Int) ≤ s_rem (s_rem slot n101 + (1 : Int)) n101 ∧ s_rem (s_rem slot n101 + (1 : Int)) n101 < (↑m108 : Int)) (chk ((0 : Nat) + (s_rem (s_rem slot n101 + (1 : Int)) n101).toNat <
  (dvs'112.set ((0 : Nat) + (s_rem (s_rem slot n101 + (1 : Int)) n101).toNat)
      (AV.int IntKind.i64
          (IntKind.i64.wrap
            (s_rem dev (IntKind.i64.wrap ((8 : Int) * pi102)) - IntKind.i64.wrap ((4 : Int) * pi102))) ::
        List.drop ((0 : Nat) + (1 : Nat))
          (dvs'112.getD ((0 : Nat) + (s_rem (s_rem slot n101 + (1 : Int)) n101).toNat) []))).length) (br (decide
  ((((dvs'112.set ((0 : Nat) + (s_rem (s_rem slot n101 + (1 : Int)) n101).toNat)
                (AV.int IntKind.i64
                    (IntKind.i64.wrap
                      (s_rem dev (IntKind.i64.wrap ((8 : Int) * pi102)) - IntKind.i64.wrap ((4 : Int) * pi102))) ::
                  List.drop ((0 : Nat) + (1 : Nat))
                    (dvs'112.getD ((0 : Nat) + (s_rem (s_rem slot n101 + (1 : Int)) n101).toNat) []))).getD
            ((0 : Nat) + (s_rem (s_rem slot n101 + (1 : Int)) n101).toNat) []).getD
        (0 : Nat) AV.gone).toI <
    IntKind.i64.wrap ((0 : Int) - IntKind.i64.wrap ((2 : Int) * pi102))))
    (chk ((0 : Nat) + m108 ≤
  ((s_rep m108 (4 : Int)).set ((0 : Nat) + (s_rem (s_rem slot n101 + (1 : Int)) n101).toNat)
      (AV.int IntKind.i64 (IntKind.i64.wrap ((1 : Int) + s_rem state (4 : Int))) ::
        List.drop ((0 : Nat) + (1 : Nat))
          ((s_rep m108 (4 : Int)).getD ((0 : Nat) + (s_rem (s_rem slot n101 + (1 : Int)) n101).toNat) []))).length) (chk ((0 : Nat) + m108 ≤
  (dvs'112.set ((0 : Nat) + (s_rem (s_rem slot n101 + (1 : Int)) n101).toNat)
      (AV.int IntKind.i64
          (IntKind.i64.wrap
            (s_rem dev (IntKind.i64.wrap ((8 : Int) * pi102)) - IntKind.i64.wrap ((4 : Int) * pi102))) ::
        List.drop ((0 : Nat) + (1 : Nat))
          (dvs'112.getD ((0 : Nat) + (s_rem (s_rem slot n101 + (1 : Int)) n101).toNat) []))).length) (((Hyp (s_confOk n101 pi102 e103 g104 fi105
      (List.map (fun r => (r.getD (0 : Nat) AV.gone).toI) (List.map (fun n => [AV.int IntKind.i64 n]) qs107)) =
    true ∧
  ([] : List (List AV)) = [] ∧
    s_runOk
        { n := n101, dir := (1 : Int), kind := (0 : Int), at_ := (0 : Int), fr := (0 : Int), to_ := (1000 : Int),
          ro := (0 : Int), sl := s_rem slot n101, pi := pi102,
          sts :=
            List.take m108
              (List.drop (0 : Nat)
                ((s_rep m108 (4 : Int)).set ((0 : Nat) + (s_rem (s_rem slot n101 + (1 : Int)) n101).toNat)
                  (AV.int IntKind.i64 (IntKind.i64.wrap ((1 : Int) + s_rem state (4 : Int))) ::
                    List.drop ((0 : Nat) + (1 : Nat))
                      ((s_rep m108 (4 : Int)).getD ((0 : Nat) + (s_rem (s_rem slot n101 + (1 : Int)) n101).toNat)
                        [])))),
          dvs :=
            List.take m108
              (List.drop (0 : Nat)
                (dvs'112.set ((0 : Nat) + (s_rem (s_rem slot n101 + (1 : Int)) n101).toNat)
                  (AV.int IntKind.i64
                      (IntKind.i64.wrap
                        (s_rem dev (IntKind.i64.wrap ((8 : Int) * pi102)) - IntKind.i64.wrap ((4 : Int) * pi102))) ::
                    List.drop ((0 : Nat) + (1 : Nat))
                      (dvs'112.getD ((0 : Nat) + (s_rem (s_rem slot n101 + (1 : Int)) n101).toNat) [])))) } ∧
      z109.size ≤ (1000000 : Nat))) ∧
    ((∀ (rows132 : List (List AV)),
    ((rows132 =
  s_runS
    { n := n101, dir := (1 : Int), kind := (0 : Int), at_ := (0 : Int), fr := (0 : Int), to_ := (1000 : Int),
      ro := (0 : Int), sl := s_rem slot n101, pi := pi102,
      sts :=
        List.take m108
          (List.drop (0 : Nat)
            ((s_rep m108 (4 : Int)).set ((0 : Nat) + (s_rem (s_rem slot n101 + (1 : Int)) n101).toNat)
              (AV.int IntKind.i64 (IntKind.i64.wrap ((1 : Int) + s_rem state (4 : Int))) ::
                List.drop ((0 : Nat) + (1 : Nat))
                  ((s_rep m108 (4 : Int)).getD ((0 : Nat) + (s_rem (s_rem slot n101 + (1 : Int)) n101).toNat) [])))),
      dvs :=
        List.take m108
          (List.drop (0 : Nat)
            (dvs'112.set ((0 : Nat) + (s_rem (s_rem slot n101 + (1 : Int)) n101).toNat)
              (AV.int IntKind.i64
                  (IntKind.i64.wrap
                    (s_rem dev (IntKind.i64.wrap ((8 : Int) * pi102)) - IntKind.i64.wrap ((4 : Int) * pi102))) ::
                List.drop ((0 : Nat) + (1 : Nat))
                  (dvs'112.getD ((0 : Nat) + (s_rem (s_rem slot n101 + (1 : Int)) n101).toNat) [])))) }
    z109 (n101 - (1 : Int)).toNat) →
    ((Hyp ((0 : Int) ≤ (0 : Int) ∧
  (0 : Int) ≤ (↑rows132.length : Int) ∧
    rows132.length ≤ (100 : Nat) ∧
      ∀ (j : Int),
        (0 : Int) ≤ j → j < (↑rows132.length : Int) → j ≠ s_rem slot n101 → s_outI rows132 j = (ByteArray.mk #[]))) ∧
    (Q ((AV.bool ((↑rows132.length : Int) == n101), [])))))))))))
    (chk ((0 : Nat) + m108 ≤
  ((s_rep m108 (4 : Int)).set ((0 : Nat) + (s_rem (s_rem slot n101 + (1 : Int)) n101).toNat)
      (AV.int IntKind.i64 (IntKind.i64.wrap ((1 : Int) + s_rem state (4 : Int))) ::
        List.drop ((0 : Nat) + (1 : Nat))
          ((s_rep m108 (4 : Int)).getD ((0 : Nat) + (s_rem (s_rem slot n101 + (1 : Int)) n101).toNat) []))).length) (chk ((0 : Nat) + m108 ≤
  (dvs'112.set ((0 : Nat) + (s_rem (s_rem slot n101 + (1 : Int)) n101).toNat)
      (AV.int IntKind.i64
          (IntKind.i64.wrap
            (s_rem dev (IntKind.i64.wrap ((8 : Int) * pi102)) - IntKind.i64.wrap ((4 : Int) * pi102))) ::
        List.drop ((0 : Nat) + (1 : Nat))
          (dvs'112.getD ((0 : Nat) + (s_rem (s_rem slot n101 + (1 : Int)) n101).toNat) []))).length) (((Hyp (s_confOk n101 pi102 e103 g104 fi105
      (List.map (fun r => (r.getD (0 : Nat) AV.gone).toI) (List.map (fun n => [AV.int IntKind.i64 n]) qs107)) =
    true ∧
  ([] : List (List AV)) = [] ∧
    s_runOk
        { n := n101, dir := (1 : Int), kind := (0 : Int), at_ := (0 : Int), fr := (0 : Int), to_ := (1000 : Int),
          ro := (0 : Int), sl := s_rem slot n101, pi := pi102,
          sts :=
            List.take m108
              (List.drop (0 : Nat)
                ((s_rep m108 (4 : Int)).set ((0 : Nat) + (s_rem (s_rem slot n101 + (1 : Int)) n101).toNat)
                  (AV.int IntKind.i64 (IntKind.i64.wrap ((1 : Int) + s_rem state (4 : Int))) ::
                    List.drop ((0 : Nat) + (1 : Nat))
                      ((s_rep m108 (4 : Int)).getD ((0 : Nat) + (s_rem (s_rem slot n101 + (1 : Int)) n101).toNat)
                        [])))),
          dvs :=
            List.take m108
              (List.drop (0 : Nat)
                (dvs'112.set ((0 : Nat) + (s_rem (s_rem slot n101 + (1 : Int)) n101).toNat)
                  (AV.int IntKind.i64
                      (IntKind.i64.wrap
                        (s_rem dev (IntKind.i64.wrap ((8 : Int) * pi102)) - IntKind.i64.wrap ((4 : Int) * pi102))) ::
                    List.drop ((0 : Nat) + (1 : Nat))
                      (dvs'112.getD ((0 : Nat) + (s_rem (s_rem slot n101 + (1 : Int)) n101).toNat) [])))) } ∧
      z109.size ≤ (1000000 : Nat))) ∧
    ((∀ (rows132 : List (List AV)),
    ((rows132 =
  s_runS
    { n := n101, dir := (1 : Int), kind := (0 : Int), at_ := (0 : Int), fr := (0 : Int), to_ := (1000 : Int),
      ro := (0 : Int), sl := s_rem slot n101, pi := pi102,
      sts :=
        List.take m108
          (List.drop (0 : Nat)
            ((s_rep m108 (4 : Int)).set ((0 : Nat) + (s_rem (s_rem slot n101 + (1 : Int)) n101).toNat)
              (AV.int IntKind.i64 (IntKind.i64.wrap ((1 : Int) + s_rem state (4 : Int))) ::
                List.drop ((0 : Nat) + (1 : Nat))
                  ((s_rep m108 (4 : Int)).getD ((0 : Nat) + (s_rem (s_rem slot n101 + (1 : Int)) n101).toNat) [])))),
      dvs :=
        List.take m108
          (List.drop (0 : Nat)
            (dvs'112.set ((0 : Nat) + (s_rem (s_rem slot n101 + (1 : Int)) n101).toNat)
              (AV.int IntKind.i64
                  (IntKind.i64.wrap
                    (s_rem dev (IntKind.i64.wrap ((8 : Int) * pi102)) - IntKind.i64.wrap ((4 : Int) * pi102))) ::
                List.drop ((0 : Nat) + (1 : Nat))
                  (dvs'112.getD ((0 : Nat) + (s_rem (s_rem slot n101 + (1 : Int)) n101).toNat) [])))) }
    z109 (n101 - (1 : Int)).toNat) →
    ((Hyp ((0 : Int) ≤ (0 : Int) ∧
  (0 : Int) ≤ (↑rows132.length : Int) ∧
    rows132.length ≤ (100 : Nat) ∧
      ∀ (j : Int),
        (0 : Int) ≤ j →
          j < (↑rows132.length : Int) →
            j ≠ s_rem slot n101 →
              s_outI rows132 j =
                (([[AV.str z109]].getD ((0 : Nat) + Int.toNat (0 : Int)) []).getD ((0 : Nat) + nat_lit 0) AV.gone).toS)) ∧
    (Q ((AV.bool ((↑rows132.length : Int) == n101), [])))))))))))))))))
  (chk ((0 : Nat) + m108 ≤
  ((s_rep m108 (4 : Int)).set ((0 : Nat) + (s_rem (s_rem slot n101 + (1 : Int)) n101).toNat)
      (AV.int IntKind.i64 (IntKind.i64.wrap ((1 : Int) + s_rem state (4 : Int))) ::
        List.drop ((0 : Nat) + (1 : Nat))
          ((s_rep m108 (4 : Int)).getD ((0 : Nat) + (s_rem (s_rem slot n101 + (1 : Int)) n101).toNat) []))).length) (chk ((0 : Nat) + m108 ≤
  (dvs'112.set ((0 : Nat) + (s_rem (s_rem slot n101 + (1 : Int)) n101).toNat)
      (AV.int IntKind.i64
          (IntKind.i64.wrap
            (s_rem dev (IntKind.i64.wrap ((8 : Int) * pi102)) - IntKind.i64.wrap ((4 : Int) * pi102))) ::
        List.drop ((0 : Nat) + (1 : Nat))
          (dvs'112.getD ((0 : Nat) + (s_rem (s_rem slot n101 + (1 : Int)) n101).toNat) []))).length) (((Hyp (s_confOk n101 pi102 e103 g104 fi105
      (List.map (fun r => (r.getD (0 : Nat) AV.gone).toI) (List.map (fun n => [AV.int IntKind.i64 n]) qs107)) =
    true ∧
  ([] : List (List AV)) = [] ∧
    s_runOk
        { n := n101, dir := (1 : Int), kind := (0 : Int), at_ := (0 : Int), fr := (0 : Int), to_ := (1000 : Int),
          ro := (0 : Int), sl := s_rem slot n101, pi := pi102,
          sts :=
            List.take m108
              (List.drop (0 : Nat)
                ((s_rep m108 (4 : Int)).set ((0 : Nat) + (s_rem (s_rem slot n101 + (1 : Int)) n101).toNat)
                  (AV.int IntKind.i64 (IntKind.i64.wrap ((1 : Int) + s_rem state (4 : Int))) ::
                    List.drop ((0 : Nat) + (1 : Nat))
                      ((s_rep m108 (4 : Int)).getD ((0 : Nat) + (s_rem (s_rem slot n101 + (1 : Int)) n101).toNat)
                        [])))),
          dvs :=
            List.take m108
              (List.drop (0 : Nat)
                (dvs'112.set ((0 : Nat) + (s_rem (s_rem slot n101 + (1 : Int)) n101).toNat)
                  (AV.int IntKind.i64
                      (IntKind.i64.wrap
                        (s_rem dev (IntKind.i64.wrap ((8 : Int) * pi102)) - IntKind.i64.wrap ((4 : Int) * pi102))) ::
                    List.drop ((0 : Nat) + (1 : Nat))
                      (dvs'112.getD ((0 : Nat) + (s_rem (s_rem slot n101 + (1 : Int)) n101).toNat) [])))) } ∧
      z109.size ≤ (1000000 : Nat))) ∧
  ((∀ (rows126 : List (List AV)),
  ((rows126 =
  s_runS
    { n := n101, dir := (1 : Int), kind := (0 : Int), at_ := (0 : Int), fr := (0 : Int), to_ := (1000 : Int),
      ro := (0 : Int), sl := s_rem slot n101, pi := pi102,
      sts :=
        List.take m108
          (List.drop (0 : Nat)
            ((s_rep m108 (4 : Int)).set ((0 : Nat) + (s_rem (s_rem slot n101 + (1 : Int)) n101).toNat)
              (AV.int IntKind.i64 (IntKind.i64.wrap ((1 : Int) + s_rem state (4 : Int))) ::
                List.drop ((0 : Nat) + (1 : Nat))
                  ((s_rep m108 (4 : Int)).getD ((0 : Nat) + (s_rem (s_rem slot n101 + (1 : Int)) n101).toNat) [])))),
      dvs :=
        List.take m108
          (List.drop (0 : Nat)
            (dvs'112.set ((0 : Nat) + (s_rem (s_rem slot n101 + (1 : Int)) n101).toNat)
              (AV.int IntKind.i64
                  (IntKind.i64.wrap
                    (s_rem dev (IntKind.i64.wrap ((8 : Int) * pi102)) - IntKind.i64.wrap ((4 : Int) * pi102))) ::
                List.drop ((0 : Nat) + (1 : Nat))
                  (dvs'112.getD ((0 : Nat) + (s_rem (s_rem slot n101 + (1 : Int)) n101).toNat) [])))) }
    z109 (n101 - (1 : Int)).toNat) →
  ((Hyp ((0 : Int) ≤ (0 : Int) ∧
  (0 : Int) ≤ (↑rows126.length : Int) ∧
    rows126.length ≤ (100 : Nat) ∧
      ∀ (j : Int),
        (0 : Int) ≤ j →
          j < (↑rows126.length : Int) →
            j ≠ s_rem slot n101 →
              s_outI rows126 j =
                (([[AV.str z109]].getD ((0 : Nat) + Int.toNat (0 : Int)) []).getD ((0 : Nat) + nat_lit 0) AV.gone).toS)) ∧
  (Q ((AV.bool ((↑rows126.length : Int) == n101), [])))))))))))))))))))))))))))))))))))) := by kernel_rfl
end Go.Proofs.YtiemjcchlfbglaaE
/- SpreadGuard: the plain law. -/
namespace Go.Proofs.YtiemjcchlfbglaaE
open Go
set_option linter.unusedVariables false
set_option linter.unusedSimpArgs false
set_option maxRecDepth 100000

theorem okLGrd1 : OkLp Try.prog H0 7 8 lGrd1 := by
  refine okLp_of (U := 6) (k := 6) okV4 lGrd1 (fun vals _ => match vals with | [_, _, _, _, _, .int _ i] => (100 - i).toNat | _ => 0) fun vals h Q hl => ?_
  unfold lGrd1 at hl
  split at hl
  · rename_i dev nlo dl state dir' i n pi e g fi nl ps fk fa ff ft ro sl dir m1 m2 z sts dvs
    obtain ⟨⟨h0, h1, h2, h3, h4⟩, hq⟩ := hyp_iff.1 hl
    refine to (nfGrd1 (nw := false) (rows := []) ..) (br_intro (fun c => br_intro (fun c1 => ?_) fun _ => hq dvs h4) fun _ => hq dvs h4)
    have c := of_decide_eq_true c
    have c1 := of_decide_eq_true c1
    have wi : IntKind.i64.wrap (i + 1) = i + 1 := wr (by omega) (by omega)
    rw [wi]
    have nxt : (100 - (i + 1)).toNat < (100 - i).toNat := by omega
    simp only [chk_iff, Nat.zero_add]
    exact ⟨⟨h0, c1⟩, ⟨h0, by omega⟩, by omega, nxt, hyp_iff.2 ⟨⟨by omega, by omega, h2, h3, by rw [List.length_set]; exact h4⟩, hq⟩⟩
  · exact hl.elim
theorem okLGrd2 : OkLp Try.prog H0 7 19 lGrd2 := by
  refine okLp_of (U := 6) (k := 6) okV4 lGrd2 (fun vals _ => match vals with | [_, _, .row _ _ rows, .int _ i] => ((rows.length : Int) - i).toNat | _ => 0) fun vals h Q hl => ?_
  unfold lGrd2 at hl
  split at hl
  · rename_i want nw rows i n pi e g fi nl ps fk fa ff ft ro sl dir m1 m2 z sts dvs
    obtain ⟨⟨h0, h1, h2, h3⟩, hq⟩ := hyp_iff.1 hl
    refine to (nfGrd2 ..) (br_intro (fun c => ?_) fun c => hq)
    have c := of_decide_eq_true c
    have wi : IntKind.i64.wrap (i + 1) = i + 1 := wr (by omega) (by omega)
    rw [wi]
    have nxt : ((rows.length : Int) - (i + 1)).toNat < ((rows.length : Int) - i).toNat := by omega
    refine br_intro (fun c1 => ?_) fun c1 => ⟨nxt, hyp_iff.2 ⟨⟨by omega, by omega, h2, h3⟩, hq⟩⟩
    have c1 : i ≠ sl := by simpa using c1
    have h4 := h3 i h0 c c1
    rw [chk_iff]
    refine ⟨⟨h0, c⟩, br_intro (fun c2 => ?_) fun _ => ⟨nxt, hyp_iff.2 ⟨⟨by omega, by omega, h2, h3⟩, hq⟩⟩⟩
    exact absurd (c2.symm.trans (str_eq h4)) (by simp)
  · exact hl.elim
theorem okW7L : OkSp Try.prog H0 W7L := ⟨okV4.fn, okLGrd1, okLGrd2, trivial⟩
theorem oK_grd {pass : Int → Int → Bool} {on : Int → Bool} {grd : Bool} {nd : Nat → Int} (hp : ∀ a b, pass a b = true) (hon : ∀ k, on (nd k) = true) : ∀ k, oK pass on grd nd (k + 1) = grd
  | 0 => by simp only [oK]; rw [hp, hon]; simp
  | 1 => by simp only [oK]; rw [hp, hon, hp, hp, hon]; simp
  | k + 2 => by
    show (on (nd (k + 3)) && ((pass _ _ && oK pass on grd nd (k + 2)) && (pass _ _ && oK pass on grd nd (k + 1)))) = grd
    rw [hon, hp, hp, oK_grd hp hon (k + 1), oK_grd hp hon k]
    simp
theorem set_int {l : List (List AV)} {g i v : Int} {t : List AV} (hg : 0 ≤ g) (hgl : g < l.length) (hi : 0 ≤ i) : s_int (l.set g.toNat (.int .i64 v :: t)) i = if i = g then v else s_int l i := by
  unfold s_int
  by_cases h : i = g
  · subst h
    have e : (l.set i.toNat (AV.int .i64 v :: t)).getD i.toNat [] = AV.int .i64 v :: t := by
      rw [List.getD_eq_getElem?_getD, List.getElem?_set_self (by omega)]; rfl
    rw [if_pos rfl, e]
    rfl
  · have e : (l.set g.toNat (AV.int .i64 v :: t)).getD i.toNat [] = l.getD i.toNat [] := by
      rw [List.getD_eq_getElem?_getD, List.getElem?_set_ne (by omega), ← List.getD_eq_getElem?_getD]
    rw [if_neg h, e]
theorem mades4 {n pi e g fi : Int} {qs : List Int} (hm : s_made n pi e g fi qs) : 4 ≤ pi := by
  unfold s_made at hm
  omega
/-- All round, where the guard sees a clock. -/
theorem grd_out {P : RP} (hok : s_runOk P) {m : Nat} (hm : (m : Int) = P.n) {st dv : Int} {t1 t2 : List AV} {dvs : List (List AV)} (hl : dvs.length = m) (hs : P.sts = (s_rep m 4).set (s_node P.n P.sl P.dir 1).toNat (.int .i64 st :: t1)) (hd : P.dvs = dvs.set (s_node P.n P.sl P.dir 1).toNat (.int .i64 dv :: t2)) (hst : st ≠ 0) (hk : P.kind = 0)
    {z : ByteArray} (hz : s_clean z = z) {j : Int} (j0 : 0 ≤ j) (j1 : j < P.n) (j2 : j ≠ P.sl) : s_outI (s_runS P z (P.n - 1).toNat) j = bs z (!(decide (st = 4 ∧ (dv < -(2 * P.pi) ∨ 2 * P.pi < dv)))) := by
  have hgl := node_lt (n := P.n) (o := P.sl) (dir := P.dir) (by have := hok.1; omega) 1
  have e1 := get_out hok hz (i := j.toNat) (by omega)
  rw [Int.toNat_of_nonneg j0] at e1
  have hf := far_lt (n := P.n) (o := P.sl) (dir := P.dir) (by omega) j
  have hf0 : (s_far P.n P.sl P.dir j).toNat ≠ 0 := fun h => by
    have := (far_zero hok (i := j.toNat) (by omega)).1 (by rw [Int.toNat_of_nonneg j0]; exact h)
    have := hok.2.2.2.1
    omega
  obtain ⟨k, hk2⟩ : ∃ k, (s_far P.n P.sl P.dir j).toNat = k + 1 := ⟨(s_far P.n P.sl P.dir j).toNat - 1, by omega⟩
  show s_out2 _ = _
  unfold s_out2
  rw [e1, hk2]
  have hp : ∀ a b, passP P a b = true := fun a b => by unfold passP s_hit; rw [hk]; rfl
  have hon : ∀ k, onP P (s_node P.n P.sl P.dir k) = true := fun k => by
    have hl2 := node_lt (n := P.n) (o := P.sl) (dir := P.dir) (by have := hok.1; omega) k
    unfold onP
    rw [hs, set_int hgl.1 (by rw [rep_len]; omega) hl2.1]
    split
    · rw [beq_eq_false_iff_ne.2 hst]; rfl
    · rw [rep_int hl2.1 (by omega)]; rfl
  have hg : grdP P = !(decide (st = 4 ∧ (dv < -(2 * P.pi) ∨ 2 * P.pi < dv))) := by
    unfold grdP
    rw [hs, hd, set_int hgl.1 (by rw [rep_len]; omega) hgl.1, set_int hgl.1 (by omega) hgl.1, if_pos rfl, if_pos rfl]
  have hh : oP P (k + 1) = grdP P := oK_grd hp hon k
  rw [hh, hg]
theorem grd_holds (n pi e g fi : Int) (nl : Bool) (ps : List (List AV)) (slot dev : Int) (nlo : Bool) (dl : List (List AV)) (state : Int) (k r sl pk pv : Int) (nl2 : Bool) (ec : List (List AV)) (nl3 : Bool) (ns : List (List AV)) (up : Bool) :
    inlW Try.prog H0 W7L 6 (InO Try.prog H0 W7L 6 6) 7 [cf n pi e g fi nl ps, .int .i64 slot, .int .i64 dev, .row nlo [.int .i64] dl, .int .i64 state, .agg [.int .i64 k, .int .i64 r, .int .i64 sl, .int .i64 pk, .int .i64 pv, .row nl2 [.int .i64, .int .i64] ec], .row nl3 [.int .i64] ns, .bool up] [] (fun r => r.1 = .bool true) := by
  refine to (nfGrd ..) (br_intro (fun _ => ?_) fun _ => ?_)
  · intro n' pi' e' g' fi' nl' qs m z hz
    obtain ⟨hm, hmn, hz, hz0, hsz⟩ := hz
    have hc : s_confOk n' pi' e' g' fi' (List.map (fun r => (r.getD (0 : Nat) AV.gone).toI) (List.map (fun n => [AV.int IntKind.i64 n]) qs)) = true := cfMade_ok hm
    have hn := hm.1
    have hn2 := hm.2.1
    have hpi := mades hm
    have hpi4 := mades4 hm
    have hs := rem_lt slot (show 0 < n' by omega)
    refine hyp_iff.2 ⟨⟨by omega, by omega, by omega, hmn, rep_len m 0⟩, fun dvs hdv => ?_⟩
    obtain ⟨G, hG⟩ : ∃ G, G = s_rem (s_rem slot n' + (-1)) n' := ⟨_, rfl⟩
    have hG2 : G = s_node n' (s_rem slot n') (-1) 1 := hG
    have hGl : 0 ≤ G ∧ G < n' := by rw [hG2]; exact node_lt (by omega) 1
    have w8 : IntKind.i64.wrap (8 * pi') = 8 * pi' := wr (by omega) (by omega)
    have w4 : IntKind.i64.wrap (4 * pi') = 4 * pi' := wr (by omega) (by omega)
    have w2 : IntKind.i64.wrap (2 * pi') = 2 * pi' := wr (by omega) (by omega)
    have w02 : IntKind.i64.wrap (0 - 2 * pi') = 0 - 2 * pi' := wr (by omega) (by omega)
    have hd8 := rem_lt dev (show 0 < 8 * pi' by omega)
    have hs4 := rem_lt state (show (0 : Int) < 4 by omega)
    have wd : IntKind.i64.wrap (s_rem dev (8 * pi') - 4 * pi') = s_rem dev (8 * pi') - 4 * pi' := wr (by omega) (by omega)
    have ws : IntKind.i64.wrap (1 + s_rem state 4) = 1 + s_rem state 4 := wr (by omega) (by omega)
    obtain ⟨st, hst⟩ : ∃ st, st = 1 + s_rem state 4 := ⟨_, rfl⟩
    obtain ⟨dv, hdv2⟩ : ∃ dv, dv = s_rem dev (8 * pi') - 4 * pi' := ⟨_, rfl⟩
    rw [← hst] at ws
    rw [← hdv2] at wd
    simp only [← hG, w8, w4, w2, w02, ← hst, ← hdv2, ws, wd, chk_iff, hyp_iff, Nat.zero_add, List.length_set, rep_len]
    obtain ⟨S, hS⟩ : ∃ S, S = (s_rep m 4).set G.toNat (AV.int IntKind.i64 st :: List.drop 1 ((s_rep m 4).getD G.toNat [])) := ⟨_, rfl⟩
    obtain ⟨D, hD⟩ : ∃ D, D = dvs.set G.toNat (AV.int IntKind.i64 dv :: List.drop 1 (dvs.getD G.toNat [])) := ⟨_, rfl⟩
    simp only [← hS, ← hD]
    have lS : S.length = m := by rw [hS, List.length_set, rep_len]
    have lD : D.length = m := by rw [hD, List.length_set, hdv]
    have tS : List.take m (List.drop 0 S) = S := by rw [List.drop_zero, List.take_of_length_le (Nat.le_of_eq lS)]
    have tD : List.take m (List.drop 0 D) = D := by rw [List.drop_zero, List.take_of_length_le (Nat.le_of_eq lD)]
    have vS : ((S.getD G.toNat []).getD 0 AV.gone).toI = st := by
      have := set_int (l := s_rep m 4) (v := st) (t := List.drop 1 ((s_rep m 4).getD G.toNat [])) hGl.1 (by rw [rep_len]; omega) hGl.1
      rw [if_pos rfl, ← hS] at this
      exact this
    have vD : ((D.getD G.toNat []).getD 0 AV.gone).toI = dv := by
      have := set_int (l := dvs) (v := dv) (t := List.drop 1 (dvs.getD G.toNat [])) hGl.1 (by omega) hGl.1
      rw [if_pos rfl, ← hD] at this
      exact this
    simp only [tS, tD, vS, vD]
    have hok : s_runOk ⟨n', -1, 0, 0, 0, 1000, 0, s_rem slot n', pi', S, D⟩ := ⟨hn, hn2, .inr rfl, hs.1, hs.2, Int.le_refl 0, (by decide : (0 : Int) ≤ 1000000), hpi.1, (by show pi' ≤ 1000000; omega), (by show (S.length : Int) = n'; omega), (by show (D.length : Int) = n'; omega)⟩
    have leaf : ∀ w : ByteArray, w = bs z (!(decide (st = 4 ∧ (dv < -(2 * pi') ∨ 2 * pi' < dv)))) → ∀ rows, rows = s_runS ⟨n', -1, 0, 0, 0, 1000, 0, s_rem slot n', pi', S, D⟩ z (n' - 1).toNat →
        ((0 : Int) ≤ 0 ∧ (0 : Int) ≤ (rows.length : Int) ∧ rows.length ≤ 100 ∧ ∀ j : Int, 0 ≤ j → j < (rows.length : Int) → j ≠ s_rem slot n' → s_outI rows j = w) ∧ AV.bool ((rows.length : Int) == n') = AV.bool true := fun w hw rows hr => by
      have hl : rows.length = n'.toNat := by rw [hr]; exact run_len hok hz
      refine ⟨⟨by omega, by omega, by omega, fun j j0 j1 j2 => ?_⟩, ?_⟩
      · rw [hr, hw]
        exact grd_out hok hmn hdv (by rw [hS, hG2]) (by rw [hD, hG2]) (by omega) rfl hz j0 (by show j < n'; omega) j2
      · have : (rows.length : Int) = n' := by omega
        rw [this]; simp
    have gG : 0 ≤ G ∧ G < (m : Int) := ⟨hGl.1, by omega⟩
    have gN : G.toNat < m := by omega
    have gN2 : G.toNat < dvs.length := by omega
    refine ⟨⟨by omega, by omega, by omega, by omega, by omega, by omega⟩, ?_⟩
    refine ⟨⟨by omega, by omega⟩, gG, gN2, gG, gN, gG, gN, br_intro (fun c => ⟨gG, gN2, br_intro (fun c1 => ⟨Nat.le_refl _, by omega, ⟨hc, trivial, hok, by omega⟩, fun rows hr => leaf _ ?_ rows hr⟩) fun c1 => ⟨gG, gN2, br_intro (fun c2 => ⟨Nat.le_refl _, by omega, ⟨hc, trivial, hok, by omega⟩, fun rows hr => leaf _ ?_ rows hr⟩) fun c2 => ⟨Nat.le_refl _, by omega, ⟨hc, trivial, hok, by omega⟩, fun rows hr => leaf _ ?_ rows hr⟩⟩⟩) fun c => ⟨Nat.le_refl _, by omega, ⟨hc, trivial, hok, by omega⟩, fun rows hr => leaf _ ?_ rows hr⟩⟩
    · have c := beq_iff_eq.1 c
      have c1 := of_decide_eq_true c1
      rw [decide_eq_true ⟨c, .inr (by omega)⟩]; rfl
    · have c := beq_iff_eq.1 c
      have c2 := of_decide_eq_true c2
      rw [decide_eq_true ⟨c, .inl (by omega)⟩]; rfl
    · have c1 := of_decide_eq_false c1
      have c2 := of_decide_eq_false c2
      rw [decide_eq_false (fun h => by omega)]; rfl
    · have c := beq_eq_false_iff_ne.1 c
      rw [decide_eq_false (fun h => c h.1)]; rfl
  · intro n' pi' e' g' fi' nl' qs m z hz
    obtain ⟨hm, hmn, hz, hz0, hsz⟩ := hz
    have hc : s_confOk n' pi' e' g' fi' (List.map (fun r => (r.getD (0 : Nat) AV.gone).toI) (List.map (fun n => [AV.int IntKind.i64 n]) qs)) = true := cfMade_ok hm
    have hn := hm.1
    have hn2 := hm.2.1
    have hpi := mades hm
    have hpi4 := mades4 hm
    have hs := rem_lt slot (show 0 < n' by omega)
    refine hyp_iff.2 ⟨⟨by omega, by omega, by omega, hmn, rep_len m 0⟩, fun dvs hdv => ?_⟩
    obtain ⟨G, hG⟩ : ∃ G, G = s_rem (s_rem slot n' + (1)) n' := ⟨_, rfl⟩
    have hG2 : G = s_node n' (s_rem slot n') (1) 1 := hG
    have hGl : 0 ≤ G ∧ G < n' := by rw [hG2]; exact node_lt (by omega) 1
    have w8 : IntKind.i64.wrap (8 * pi') = 8 * pi' := wr (by omega) (by omega)
    have w4 : IntKind.i64.wrap (4 * pi') = 4 * pi' := wr (by omega) (by omega)
    have w2 : IntKind.i64.wrap (2 * pi') = 2 * pi' := wr (by omega) (by omega)
    have w02 : IntKind.i64.wrap (0 - 2 * pi') = 0 - 2 * pi' := wr (by omega) (by omega)
    have hd8 := rem_lt dev (show 0 < 8 * pi' by omega)
    have hs4 := rem_lt state (show (0 : Int) < 4 by omega)
    have wd : IntKind.i64.wrap (s_rem dev (8 * pi') - 4 * pi') = s_rem dev (8 * pi') - 4 * pi' := wr (by omega) (by omega)
    have ws : IntKind.i64.wrap (1 + s_rem state 4) = 1 + s_rem state 4 := wr (by omega) (by omega)
    obtain ⟨st, hst⟩ : ∃ st, st = 1 + s_rem state 4 := ⟨_, rfl⟩
    obtain ⟨dv, hdv2⟩ : ∃ dv, dv = s_rem dev (8 * pi') - 4 * pi' := ⟨_, rfl⟩
    rw [← hst] at ws
    rw [← hdv2] at wd
    simp only [← hG, w8, w4, w2, w02, ← hst, ← hdv2, ws, wd, chk_iff, hyp_iff, Nat.zero_add, List.length_set, rep_len]
    obtain ⟨S, hS⟩ : ∃ S, S = (s_rep m 4).set G.toNat (AV.int IntKind.i64 st :: List.drop 1 ((s_rep m 4).getD G.toNat [])) := ⟨_, rfl⟩
    obtain ⟨D, hD⟩ : ∃ D, D = dvs.set G.toNat (AV.int IntKind.i64 dv :: List.drop 1 (dvs.getD G.toNat [])) := ⟨_, rfl⟩
    simp only [← hS, ← hD]
    have lS : S.length = m := by rw [hS, List.length_set, rep_len]
    have lD : D.length = m := by rw [hD, List.length_set, hdv]
    have tS : List.take m (List.drop 0 S) = S := by rw [List.drop_zero, List.take_of_length_le (Nat.le_of_eq lS)]
    have tD : List.take m (List.drop 0 D) = D := by rw [List.drop_zero, List.take_of_length_le (Nat.le_of_eq lD)]
    have vS : ((S.getD G.toNat []).getD 0 AV.gone).toI = st := by
      have := set_int (l := s_rep m 4) (v := st) (t := List.drop 1 ((s_rep m 4).getD G.toNat [])) hGl.1 (by rw [rep_len]; omega) hGl.1
      rw [if_pos rfl, ← hS] at this
      exact this
    have vD : ((D.getD G.toNat []).getD 0 AV.gone).toI = dv := by
      have := set_int (l := dvs) (v := dv) (t := List.drop 1 (dvs.getD G.toNat [])) hGl.1 (by omega) hGl.1
      rw [if_pos rfl, ← hD] at this
      exact this
    simp only [tS, tD, vS, vD]
    have hok : s_runOk ⟨n', 1, 0, 0, 0, 1000, 0, s_rem slot n', pi', S, D⟩ := ⟨hn, hn2, .inl rfl, hs.1, hs.2, Int.le_refl 0, (by decide : (0 : Int) ≤ 1000000), hpi.1, (by show pi' ≤ 1000000; omega), (by show (S.length : Int) = n'; omega), (by show (D.length : Int) = n'; omega)⟩
    have leaf : ∀ w : ByteArray, w = bs z (!(decide (st = 4 ∧ (dv < -(2 * pi') ∨ 2 * pi' < dv)))) → ∀ rows, rows = s_runS ⟨n', 1, 0, 0, 0, 1000, 0, s_rem slot n', pi', S, D⟩ z (n' - 1).toNat →
        ((0 : Int) ≤ 0 ∧ (0 : Int) ≤ (rows.length : Int) ∧ rows.length ≤ 100 ∧ ∀ j : Int, 0 ≤ j → j < (rows.length : Int) → j ≠ s_rem slot n' → s_outI rows j = w) ∧ AV.bool ((rows.length : Int) == n') = AV.bool true := fun w hw rows hr => by
      have hl : rows.length = n'.toNat := by rw [hr]; exact run_len hok hz
      refine ⟨⟨by omega, by omega, by omega, fun j j0 j1 j2 => ?_⟩, ?_⟩
      · rw [hr, hw]
        exact grd_out hok hmn hdv (by rw [hS, hG2]) (by rw [hD, hG2]) (by omega) rfl hz j0 (by show j < n'; omega) j2
      · have : (rows.length : Int) = n' := by omega
        rw [this]; simp
    have gG : 0 ≤ G ∧ G < (m : Int) := ⟨hGl.1, by omega⟩
    have gN : G.toNat < m := by omega
    have gN2 : G.toNat < dvs.length := by omega
    refine ⟨⟨by omega, by omega, by omega, by omega, by omega, by omega⟩, ?_⟩
    refine ⟨⟨by omega, by omega⟩, gG, gN2, gG, gN, gG, gN, br_intro (fun c => ⟨gG, gN2, br_intro (fun c1 => ⟨Nat.le_refl _, by omega, ⟨hc, trivial, hok, by omega⟩, fun rows hr => leaf _ ?_ rows hr⟩) fun c1 => ⟨gG, gN2, br_intro (fun c2 => ⟨Nat.le_refl _, by omega, ⟨hc, trivial, hok, by omega⟩, fun rows hr => leaf _ ?_ rows hr⟩) fun c2 => ⟨Nat.le_refl _, by omega, ⟨hc, trivial, hok, by omega⟩, fun rows hr => leaf _ ?_ rows hr⟩⟩⟩) fun c => ⟨Nat.le_refl _, by omega, ⟨hc, trivial, hok, by omega⟩, fun rows hr => leaf _ ?_ rows hr⟩⟩
    · have c := beq_iff_eq.1 c
      have c1 := of_decide_eq_true c1
      rw [decide_eq_true ⟨c, .inr (by omega)⟩]; rfl
    · have c := beq_iff_eq.1 c
      have c2 := of_decide_eq_true c2
      rw [decide_eq_true ⟨c, .inl (by omega)⟩]; rfl
    · have c1 := of_decide_eq_false c1
      have c2 := of_decide_eq_false c2
      rw [decide_eq_false (fun h => by omega)]; rfl
    · have c := beq_eq_false_iff_ne.1 c
      rw [decide_eq_false (fun h => c h.1)]; rfl
end Go.Proofs.YtiemjcchlfbglaaE
