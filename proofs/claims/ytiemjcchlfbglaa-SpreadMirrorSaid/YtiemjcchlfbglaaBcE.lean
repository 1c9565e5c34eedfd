/- SpreadOff: specs of its loops. -/
import Derived.Test.YtiemjcchlfbglaaBcD
import Derived.KernelRfl
namespace Go.Proofs.YtiemjcchlfbglaaE
open Go
set_option linter.unusedVariables false

def s_farI (rows : List (List AV)) (j : Int) : Int := ((rows.getD j.toNat []).getD 3 AV.gone).toI
/-- All are on, up to a node. -/
def s_offK (n sl dir : Int) (sts : List (List AV)) : Nat → Bool
  | 0 => true
  | k + 1 => s_offK n sl dir sts k && !(s_int sts (s_node n sl dir (k + 1)) == 0)
def lOff1 : LW := fun vals h Q => match vals, h with
  | [.row nlo [.bool] offs, .int .i64 dir', .ptr 0 0, .int .i64 i], [.box [.int .i64 n, .int .i64 pi, .int .i64 e, .int .i64 g, .int .i64 fi, .row nl [.int .i64] ps, .int .i64 fk, .int .i64 fa, .int .i64 ff, .int .i64 ft, .nils, .nils, .int .i64 ro, .int .i64 sl, .int .i64 dir, .sl 1 0 1, .sl 2 0 m1, .sl 3 0 m2], .arr 2 9 [.str] [[.str z]], .arr 2 3 [.int .i64] sts, .arr 2 3 [.int .i64] dvs] => Hyp (0 ≤ i ∧ i ≤ n ∧ n ≤ 100 ∧ (m1 : Int) = n ∧ sts.length = m1) ∧ ∀ sts' : List (List AV), sts'.length = m1 → Q (.exit 0) [.int .i64 dir', .ptr 0 0] [.box [.int .i64 n, .int .i64 pi, .int .i64 e, .int .i64 g, .int .i64 fi, .row nl [.int .i64] ps, .int .i64 fk, .int .i64 fa, .int .i64 ff, .int .i64 ft, .nils, .nils, .int .i64 ro, .int .i64 sl, .int .i64 dir, .sl 1 0 1, .sl 2 0 m1, .sl 3 0 m2], .arr 2 9 [.str] [[.str z]], .arr 2 3 [.int .i64] sts', .arr 2 3 [.int .i64] dvs]
  | _, _ => False
def lOff2 : LW := fun vals h Q => match vals, h with
  | [.int .i64 dir', .ptr 0 0, .row nw [.str, .str, .str, .int .i64] rows, .str want, .int .i64 k], [.box [.int .i64 n, .int .i64 pi, .int .i64 e, .int .i64 g, .int .i64 fi, .row nl [.int .i64] ps, .int .i64 fk, .int .i64 fa, .int .i64 ff, .int .i64 ft, .nils, .nils, .int .i64 ro, .int .i64 sl, .int .i64 dir, .sl 1 0 1, .sl 2 0 m1, .sl 3 0 m2], .arr 0 9 [.str] [[.str z]], .arr 0 3 [.int .i64] sts, .arr 0 3 [.int .i64] dvs] => Hyp (dir' = dir ∧ (dir = 1 ∨ dir = -1) ∧ 1 ≤ k ∧ k ≤ n ∧ (rows.length : Int) = n ∧ n ≤ 100 ∧ 0 ≤ sl ∧ sl < n ∧ (m1 : Int) = n ∧ sts.length = m1 ∧ want = bs z (s_offK n sl dir sts (k - 1).toNat) ∧
      ∀ j : Nat, 0 < j → (j : Int) < n → s_outI rows (s_node n sl dir j) = bs z (s_offK n sl dir sts j) ∧ s_farI rows (s_node n sl dir j) = j) ∧ Q (.exit 2) [] []
  | _, _ => False
def W6L : Sp := ⟨V4.fn, [(6, 8, lOff1), (6, 17, lOff2)]⟩
end Go.Proofs.YtiemjcchlfbglaaE
/- What path mode says of functions, printed by a program of this session; the kernel holds each. -/
namespace Go.Proofs.YtiemjcchlfbglaaE
open Go
set_option maxRecDepth 100000
set_option linter.unusedVariables false
theorem nfOff1 (n pi e g fi fk fa ff ft ro sl dir i : Int) (nl nw : Bool) (ps rows sts dvs : List (List AV)) (m1 m2 : Nat) (z : ByteArray) (dir' : Int) (nlo : Bool) (offs : List (List AV)) (Q : Ex → List AV → List AObj → Prop) : lpBody Try.prog H0 V4 6 6 6 8 [.row nlo [.bool] offs, .int .i64 dir', .ptr 0 0, .int .i64 i] [.box [.int .i64 n, .int .i64 pi, .int .i64 e, .int .i64 g, .int .i64 fi, .row nl [.int .i64] ps, .int .i64 fk, .int .i64 fa, .int .i64 ff, .int .i64 ft, .nils, .nils, .int .i64 ro, .int .i64 sl, .int .i64 dir, .sl 1 0 1, .sl 2 0 m1, .sl 3 0 m2], .arr 2 9 [.str] [[.str z]], .arr 2 3 [.int .i64] sts, .arr 2 3 [.int .i64] dvs] Q = (
br (decide (i < n))
 (br (decide (i < (↑offs.length : Int)))
  (chk ((0 : Int) ≤ i ∧ i < (↑offs.length : Int)) (br (((offs.getD i.toNat []).getD (0 : Nat) AV.gone).toB)
   (br (i != sl)
    (chk ((0 : Int) ≤ i ∧ i < (↑m1 : Int)) (chk ((0 : Nat) + i.toNat < sts.length) (Q (Ex.nrm) ([AV.row nlo [K.bool] offs, AV.int IntKind.i64 dir', AV.ptr (0 : Nat) (0 : Nat),
  AV.int IntKind.i64 (IntKind.i64.wrap (i + (1 : Int)))]) ([AObj.box
    [AV.int IntKind.i64 n, AV.int IntKind.i64 pi, AV.int IntKind.i64 e, AV.int IntKind.i64 g, AV.int IntKind.i64 fi,
      AV.row nl [K.int IntKind.i64] ps, AV.int IntKind.i64 fk, AV.int IntKind.i64 fa, AV.int IntKind.i64 ff,
      AV.int IntKind.i64 ft, AV.nils, AV.nils, AV.int IntKind.i64 ro, AV.int IntKind.i64 sl, AV.int IntKind.i64 dir,
      AV.sl (1 : Nat) (0 : Nat) (1 : Nat), AV.sl (2 : Nat) (0 : Nat) m1, AV.sl (3 : Nat) (0 : Nat) m2],
  AObj.arr (2 : Nat) (9 : Nat) [K.str] [[AV.str z]],
  AObj.arr (2 : Nat) (3 : Nat) [K.int IntKind.i64]
    (sts.set ((0 : Nat) + i.toNat)
      (AV.int IntKind.i64 (0 : Int) :: List.drop ((0 : Nat) + (1 : Nat)) (sts.getD ((0 : Nat) + i.toNat) []))),
  AObj.arr (2 : Nat) (3 : Nat) [K.int IntKind.i64] dvs]))))
    (Q (Ex.nrm) ([AV.row nlo [K.bool] offs, AV.int IntKind.i64 dir', AV.ptr (0 : Nat) (0 : Nat),
  AV.int IntKind.i64 (IntKind.i64.wrap (i + (1 : Int)))]) ([AObj.box
    [AV.int IntKind.i64 n, AV.int IntKind.i64 pi, AV.int IntKind.i64 e, AV.int IntKind.i64 g, AV.int IntKind.i64 fi,
      AV.row nl [K.int IntKind.i64] ps, AV.int IntKind.i64 fk, AV.int IntKind.i64 fa, AV.int IntKind.i64 ff,
      AV.int IntKind.i64 ft, AV.nils, AV.nils, AV.int IntKind.i64 ro, AV.int IntKind.i64 sl, AV.int IntKind.i64 dir,
      AV.sl (1 : Nat) (0 : Nat) (1 : Nat), AV.sl (2 : Nat) (0 : Nat) m1, AV.sl (3 : Nat) (0 : Nat) m2],
  AObj.arr (2 : Nat) (9 : Nat) [K.str] [[AV.str z]], AObj.arr (2 : Nat) (3 : Nat) [K.int IntKind.i64] sts,
  AObj.arr (2 : Nat) (3 : Nat) [K.int IntKind.i64] dvs])))
   (Q (Ex.nrm) ([AV.row nlo [K.bool] offs, AV.int IntKind.i64 dir', AV.ptr (0 : Nat) (0 : Nat),
  AV.int IntKind.i64 (IntKind.i64.wrap (i + (1 : Int)))]) ([AObj.box
    [AV.int IntKind.i64 n, AV.int IntKind.i64 pi, AV.int IntKind.i64 e, AV.int IntKind.i64 g, AV.int IntKind.i64 fi,
      AV.row nl [K.int IntKind.i64] ps, AV.int IntKind.i64 fk, AV.int IntKind.i64 fa, AV.int IntKind.i64 ff,
      AV.int IntKind.i64 ft, AV.nils, AV.nils, AV.int IntKind.i64 ro, AV.int IntKind.i64 sl, AV.int IntKind.i64 dir,
      AV.sl (1 : Nat) (0 : Nat) (1 : Nat), AV.sl (2 : Nat) (0 : Nat) m1, AV.sl (3 : Nat) (0 : Nat) m2],
  AObj.arr (2 : Nat) (9 : Nat) [K.str] [[AV.str z]], AObj.arr (2 : Nat) (3 : Nat) [K.int IntKind.i64] sts,
  AObj.arr (2 : Nat) (3 : Nat) [K.int IntKind.i64] dvs]))))
  (Q (Ex.exit (0 : Nat)) ([AV.int IntKind.i64 dir', AV.ptr (0 : Nat) (0 : Nat)]) ([AObj.box
    [AV.int IntKind.i64 n, AV.int IntKind.i64 pi, AV.int IntKind.i64 e, AV.int IntKind.i64 g, AV.int IntKind.i64 fi,
      AV.row nl [K.int IntKind.i64] ps, AV.int IntKind.i64 fk, AV.int IntKind.i64 fa, AV.int IntKind.i64 ff,
      AV.int IntKind.i64 ft, AV.nils, AV.nils, AV.int IntKind.i64 ro, AV.int IntKind.i64 sl, AV.int IntKind.i64 dir,
      AV.sl (1 : Nat) (0 : Nat) (1 : Nat), AV.sl (2 : Nat) (0 : Nat) m1, AV.sl (3 : Nat) (0 : Nat) m2],
  AObj.arr (2 : Nat) (9 : Nat) [K.str] [[AV.str z]], AObj.arr (2 : Nat) (3 : Nat) [K.int IntKind.i64] sts,
  AObj.arr (2 : Nat) (3 : Nat) [K.int IntKind.i64] dvs])))
 (Q (Ex.exit (0 : Nat)) ([AV.int IntKind.i64 dir', AV.ptr (0 : Nat) (0 : Nat)]) ([AObj.box
    [AV.int IntKind.i64 n, AV.int IntKind.i64 pi, AV.int IntKind.i64 e, AV.int IntKind.i64 g, AV.int IntKind.i64 fi,
      AV.row nl [K.int IntKind.i64] ps, AV.int IntKind.i64 fk, AV.int IntKind.i64 fa, AV.int IntKind.i64 ff,
      AV.int IntKind.i64 ft, AV.nils, AV.nils, AV.int IntKind.i64 ro, AV.int IntKind.i64 sl, AV.int IntKind.i64 dir,
      AV.sl (1 : Nat) (0 : Nat) (1 : Nat), AV.sl (2 : Nat) (0 : Nat) m1, AV.sl (3 : Nat) (0 : Nat) m2],
  AObj.arr (2 : Nat) (9 : Nat) [K.str] [[AV.str z]], AObj.arr (2 : Nat) (3 : Nat) [K.int IntKind.i64] sts,
  AObj.arr (2 : Nat) (3 : Nat) [K.int IntKind.i64] dvs]))) := by kernel_rfl
theorem nfOff2 (n pi e g fi fk fa ff ft ro sl dir i : Int) (nl nw : Bool) (ps rows sts dvs : List (List AV)) (m1 m2 : Nat) (z : ByteArray) (dir' k : Int) (want : ByteArray) (Q : Ex → List AV → List AObj → Prop) : lpBody Try.prog H0 V4 6 6 6 17 [.int .i64 dir', .ptr 0 0, .row nw [.str, .str, .str, .int .i64] rows, .str want, .int .i64 k] [.box [.int .i64 n, .int .i64 pi, .int .i64 e, .int .i64 g, .int .i64 fi, .row nl [.int .i64] ps, .int .i64 fk, .int .i64 fa, .int .i64 ff, .int .i64 ft, .nils, .nils, .int .i64 ro, .int .i64 sl, .int .i64 dir, .sl 1 0 1, .sl 2 0 m1, .sl 3 0 m2], .arr 0 9 [.str] [[.str z]], .arr 0 3 [.int .i64] sts, .arr 0 3 [.int .i64] dvs] Q = (
br (decide (k < n))
 (((Hyp ((0 : Int) < n ∧
  n ≤ (1000000 : Int) ∧
    (-1000000 : Int) ≤ sl ∧
      sl ≤ (1000000 : Int) ∧
        (-1000000 : Int) ≤ IntKind.i64.wrap (dir' * k) ∧ IntKind.i64.wrap (dir' * k) ≤ (1000000 : Int))) ∧
 (chk ((0 : Int) ≤ s_rem (sl + IntKind.i64.wrap (dir' * k)) n ∧ s_rem (sl + IntKind.i64.wrap (dir' * k)) n < (↑m1 : Int)) (chk ((0 : Nat) + (s_rem (sl + IntKind.i64.wrap (dir' * k)) n).toNat < sts.length) (br (((sts.getD ((0 : Nat) + (s_rem (sl + IntKind.i64.wrap (dir' * k)) n).toNat) []).getD (0 : Nat) AV.gone).toI == (0 : Int))
  (chk ((0 : Int) ≤ s_rem (sl + IntKind.i64.wrap (dir' * k)) n ∧
  s_rem (sl + IntKind.i64.wrap (dir' * k)) n < (↑rows.length : Int)) (br (!((rows.getD (s_rem (sl + IntKind.i64.wrap (dir' * k)) n).toNat []).getD (2 : Nat) AV.gone).toS.toList ==
    (ByteArray.mk #[]).toList)
   (Q (Ex.ret) ([AV.bool false]) ([]))
   (chk ((0 : Int) ≤ s_rem (sl + IntKind.i64.wrap (dir' * k)) n ∧
  s_rem (sl + IntKind.i64.wrap (dir' * k)) n < (↑rows.length : Int)) (br (((rows.getD (s_rem (sl + IntKind.i64.wrap (dir' * k)) n).toNat []).getD (3 : Nat) AV.gone).toI != k)
    (Q (Ex.ret) ([AV.bool false]) ([]))
    (Q (Ex.nrm) ([AV.int IntKind.i64 dir', AV.ptr (0 : Nat) (0 : Nat), AV.row nw [K.str, K.str, K.str, K.int IntKind.i64] rows,
  AV.str (ByteArray.mk #[]), AV.int IntKind.i64 (IntKind.i64.wrap (k + (1 : Int)))]) ([AObj.box
    [AV.int IntKind.i64 n, AV.int IntKind.i64 pi, AV.int IntKind.i64 e, AV.int IntKind.i64 g, AV.int IntKind.i64 fi,
      AV.row nl [K.int IntKind.i64] ps, AV.int IntKind.i64 fk, AV.int IntKind.i64 fa, AV.int IntKind.i64 ff,
      AV.int IntKind.i64 ft, AV.nils, AV.nils, AV.int IntKind.i64 ro, AV.int IntKind.i64 sl, AV.int IntKind.i64 dir,
      AV.sl (1 : Nat) (0 : Nat) (1 : Nat), AV.sl (2 : Nat) (0 : Nat) m1, AV.sl (3 : Nat) (0 : Nat) m2],
  AObj.arr (0 : Nat) (9 : Nat) [K.str] [[AV.str z]], AObj.arr (0 : Nat) (3 : Nat) [K.int IntKind.i64] sts,
  AObj.arr (0 : Nat) (3 : Nat) [K.int IntKind.i64] dvs]))))))
  (chk ((0 : Int) ≤ s_rem (sl + IntKind.i64.wrap (dir' * k)) n ∧
  s_rem (sl + IntKind.i64.wrap (dir' * k)) n < (↑rows.length : Int)) (br (!((rows.getD (s_rem (sl + IntKind.i64.wrap (dir' * k)) n).toNat []).getD (2 : Nat) AV.gone).toS.toList == want.toList)
   (Q (Ex.ret) ([AV.bool false]) ([]))
   (chk ((0 : Int) ≤ s_rem (sl + IntKind.i64.wrap (dir' * k)) n ∧
  s_rem (sl + IntKind.i64.wrap (dir' * k)) n < (↑rows.length : Int)) (br (((rows.getD (s_rem (sl + IntKind.i64.wrap (dir' * k)) n).toNat []).getD (3 : Nat) AV.gone).toI != k)
    (Q (Ex.ret) ([AV.bool false]) ([]))
    (Q (Ex.nrm) ([AV.int IntKind.i64 dir', AV.ptr (0 : Nat) (0 : Nat), AV.row nw [K.str, K.str, K.str, K.int IntKind.i64] rows,
  AV.str want, AV.int IntKind.i64 (IntKind.i64.wrap (k + (1 : Int)))]) ([AObj.box
    [AV.int IntKind.i64 n, AV.int IntKind.i64 pi, AV.int IntKind.i64 e, AV.int IntKind.i64 g, AV.int IntKind.i64 fi,
      AV.row nl [K.int IntKind.i64] ps, AV.int IntKind.i64 fk, AV.int IntKind.i64 fa, AV.int IntKind.i64 ff,
      AV.int IntKind.i64 ft, AV.nils, AV.nils, AV.int IntKind.i64 ro, AV.int IntKind.i64 sl, AV.int IntKind.i64 dir,
      AV.sl (1 : Nat) (0 : Nat) (1 : Nat), AV.sl (2 : Nat) (0 : Nat) m1, AV.sl (3 : Nat) (0 : Nat) m2],
  AObj.arr (0 : Nat) (9 : Nat) [K.str] [[AV.str z]], AObj.arr (0 : Nat) (3 : Nat) [K.int IntKind.i64] sts,
  AObj.arr (0 : Nat) (3 : Nat) [K.int IntKind.i64] dvs])))))))))))
 (Q (Ex.exit (2 : Nat)) ([]) ([]))) := by kernel_rfl
theorem nfOff (n pi e g fi : Int) (nl : Bool) (ps : List (List AV)) (slot : Int) (nlo : Bool) (offs : List (List AV)) (k r sl pk pv : Int) (nl2 : Bool) (ec : List (List AV)) (nl3 : Bool) (ns : List (List AV)) (up : Bool) (Q : AV × List AObj → Prop) : inlW Try.prog H0 W6L 6 (InO Try.prog H0 W6L 6 6) 6 [cf n pi e g fi nl ps, .int .i64 slot, .row nlo [.bool] offs, .agg [.int .i64 k, .int .i64 r, .int .i64 sl, .int .i64 pk, .int .i64 pv, .row nl2 [.int .i64, .int .i64] ec], .row nl3 [.int .i64] ns, .bool up] [] Q = (
br (!up)
 ((∀ (n101 : Int),
 (∀ (pi102 : Int),
 (∀ (e103 : Int),
 (∀ (g104 : Int),
 (∀ (fi105 : Int),
 (∀ (nl106 : Bool),
 (∀ (qs107 : List Int),
 (∀ (m108 : Nat),
 (∀ (z109 : ByteArray),
 ((s_made n101 pi102 e103 g104 fi105 qs107 ∧
  (↑m108 : Int) = n101 ∧ s_clean z109 = z109 ∧ (0 : Nat) < z109.size ∧ z109.size ≤ (1000 : Nat)) →
 ((Hyp ((0 : Int) ≤ (0 : Int) ∧
  (0 : Int) ≤ n101 ∧ n101 ≤ (100 : Int) ∧ (↑m108 : Int) = n101 ∧ (s_rep m108 (4 : Int)).length = m108)) ∧
 ((∀ (sts'112 : List (List AV)),
 ((sts'112.length = m108) →
 chk ((0 : Nat) + m108 ≤ sts'112.length) (chk ((0 : Nat) + m108 ≤ (s_rep m108 (0 : Int)).length) (((Hyp (s_confOk n101 pi102 e103 g104 fi105
      (List.map (fun r => (r.getD (0 : Nat) AV.gone).toI) (List.map (fun n => [AV.int IntKind.i64 n]) qs107)) =
    true ∧
  ([] : List (List AV)) = [] ∧
    s_runOk
        { n := n101, dir := (-1 : Int), kind := (0 : Int), at_ := (0 : Int), fr := (0 : Int), to_ := (1000 : Int),
          ro := (0 : Int), sl := s_rem slot n101, pi := pi102, sts := List.take m108 (List.drop (0 : Nat) sts'112),
          dvs := List.take m108 (List.drop (0 : Nat) (s_rep m108 (0 : Int))) } ∧
      z109.size ≤ (1000000 : Nat))) ∧
 ((∀ (rows117 : List (List AV)),
 ((rows117 =
  s_runS
    { n := n101, dir := (-1 : Int), kind := (0 : Int), at_ := (0 : Int), fr := (0 : Int), to_ := (1000 : Int),
      ro := (0 : Int), sl := s_rem slot n101, pi := pi102, sts := List.take m108 (List.drop (0 : Nat) sts'112),
      dvs := List.take m108 (List.drop (0 : Nat) (s_rep m108 (0 : Int))) }
    z109 (n101 - (1 : Int)).toNat) →
 br ((↑rows117.length : Int) != n101)
  (Q ((AV.bool false, [])))
  (((Hyp ((-1 : Int) = (-1 : Int) ∧
  ((-1 : Int) = (1 : Int) ∨ (-1 : Int) = (-1 : Int)) ∧
    (1 : Int) ≤ (1 : Int) ∧
      (1 : Int) ≤ n101 ∧
        (↑rows117.length : Int) = n101 ∧
          n101 ≤ (100 : Int) ∧
            (0 : Int) ≤ s_rem slot n101 ∧
              s_rem slot n101 < n101 ∧
                (↑m108 : Int) = n101 ∧
                  sts'112.length = m108 ∧
                    z109 = z109 ∧
                      ∀ (j : Nat),
                        (0 : Nat) < j →
                          (↑j : Int) < n101 →
                            s_outI rows117 (s_node n101 (s_rem slot n101) (-1 : Int) j) =
                                bs z109
                                  (s_offK n101 (s_rem slot n101) (-1 : Int)
                                    (mapRows (fun x => idx x [nat_lit 0, nat_lit 1, nat_lit 2, nat_lit 3])
                                      [K.int IntKind.i64] sts'112)
                                    j) ∧
                              s_farI rows117 (s_node n101 (s_rem slot n101) (-1 : Int) j) = (↑j : Int))) ∧
  (Q ((AV.bool true, []))))))))))))))))))))))))))
 ((∀ (n101 : Int),
 (∀ (pi102 : Int),
 (∀ (e103 : Int),
 (∀ (g104 : Int),
 (∀ (fi105 : Int),
 (∀ (nl106 : Bool),
 (∀ (qs107 : List Int),
 (∀ (m108 : Nat),
 (∀ (z109 : ByteArray),
 ((s_made n101 pi102 e103 g104 fi105 qs107 ∧
  (↑m108 : Int) = n101 ∧ s_clean z109 = z109 ∧ (0 : Nat) < z109.size ∧ z109.size ≤ (1000 : Nat)) →
 ((Hyp ((0 : Int) ≤ (0 : Int) ∧
  (0 : Int) ≤ n101 ∧ n101 ≤ (100 : Int) ∧ (↑m108 : Int) = n101 ∧ (s_rep m108 (4 : Int)).length = m108)) ∧
 ((∀ (sts'112 : List (List AV)),
 ((sts'112.length = m108) →
 chk ((0 : Nat) + m108 ≤ sts'112.length) (chk ((0 : Nat) + m108 ≤ (s_rep m108 (0 : Int)).length) (((Hyp (s_confOk n101 pi102 e103 g104 fi105
      (List.map (fun r => (r.getD (0 : Nat) AV.gone).toI) (List.map (fun n => [AV.int IntKind.i64 n]) qs107)) =
    true ∧
  ([] : List (List AV)) = [] ∧
    s_runOk
        { n := n101, dir := (1 : Int), kind := (0 : Int), at_ := (0 : Int), fr := (0 : Int), to_ := (1000 : Int),
          ro := (0 : Int), sl := s_rem slot n101, pi := pi102, sts := List.take m108 (List.drop (0 : Nat) sts'112),
          dvs := List.take m108 (List.drop (0 : Nat) (s_rep m108 (0 : Int))) } ∧
      z109.size ≤ (1000000 : Nat))) ∧
 ((∀ (rows117 : List (List AV)),
 ((rows117 =
  s_runS
    { n := n101, dir := (1 : Int), kind := (0 : Int), at_ := (0 : Int), fr := (0 : Int), to_ := (1000 : Int),
      ro := (0 : Int), sl := s_rem slot n101, pi := pi102, sts := List.take m108 (List.drop (0 : Nat) sts'112),
      dvs := List.take m108 (List.drop (0 : Nat) (s_rep m108 (0 : Int))) }
    z109 (n101 - (1 : Int)).toNat) →
 br ((↑rows117.length : Int) != n101)
  (Q ((AV.bool false, [])))
  (((Hyp ((1 : Int) = (1 : Int) ∧
  ((1 : Int) = (1 : Int) ∨ (1 : Int) = (-1 : Int)) ∧
    (1 : Int) ≤ (1 : Int) ∧
      (1 : Int) ≤ n101 ∧
        (↑rows117.length : Int) = n101 ∧
          n101 ≤ (100 : Int) ∧
            (0 : Int) ≤ s_rem slot n101 ∧
              s_rem slot n101 < n101 ∧
                (↑m108 : Int) = n101 ∧
                  sts'112.length = m108 ∧
                    z109 = z109 ∧
                      ∀ (j : Nat),
                        (0 : Nat) < j →
                          (↑j : Int) < n101 →
                            s_outI rows117 (s_node n101 (s_rem slot n101) (1 : Int) j) =
                                bs z109
                                  (s_offK n101 (s_rem slot n101) (1 : Int)
                                    (mapRows (fun x => idx x [nat_lit 0, nat_lit 1, nat_lit 2, nat_lit 3])
                                      [K.int IntKind.i64] sts'112)
                                    j) ∧
                              s_farI rows117 (s_node n101 (s_rem slot n101) (1 : Int) j) = (↑j : Int))) ∧
  (Q ((AV.bool true, []))))))))))))))))))))))))))) := by kernel_rfl
end Go.Proofs.YtiemjcchlfbglaaE
/- SpreadOff: the plain law. -/
namespace Go.Proofs.YtiemjcchlfbglaaE
open Go
set_option linter.unusedVariables false
set_option linter.unusedSimpArgs false
set_option maxRecDepth 100000

theorem okLOff1 : OkLp Try.prog H0 6 8 lOff1 := by
  refine okLp_of (U := 6) (k := 6) okV4 lOff1 (fun vals _ => match vals with | [_, _, _, .int _ i] => (100 - i).toNat | _ => 0) fun vals h Q hl => ?_
  unfold lOff1 at hl
  split at hl
  · rename_i nlo offs dir' i n pi e g fi nl ps fk fa ff ft ro sl dir m1 m2 z sts dvs
    obtain ⟨⟨h0, h1, h2, h3, h4⟩, hq⟩ := hyp_iff.1 hl
    refine to (nfOff1 (nw := false) (rows := []) ..) (br_intro (fun c => br_intro (fun c1 => ?_) fun _ => hq sts h4) fun _ => hq sts h4)
    have c := of_decide_eq_true c
    have c1 := of_decide_eq_true c1
    have wi : IntKind.i64.wrap (i + 1) = i + 1 := wr (by omega) (by omega)
    rw [wi]
    have nxt : (100 - (i + 1)).toNat < (100 - i).toNat := by omega
    simp only [chk_iff, Nat.zero_add]
    refine ⟨⟨h0, c1⟩, br_intro (fun _ => br_intro (fun _ => ⟨⟨h0, by omega⟩, by omega, nxt, hyp_iff.2 ⟨⟨by omega, by omega, h2, h3, by rw [List.length_set]; exact h4⟩, hq⟩⟩) fun _ => ⟨nxt, hyp_iff.2 ⟨⟨by omega, by omega, h2, h3, h4⟩, hq⟩⟩) fun _ => ⟨nxt, hyp_iff.2 ⟨⟨by omega, by omega, h2, h3, h4⟩, hq⟩⟩⟩
  · exact hl.elim
theorem okLOff2 : OkLp Try.prog H0 6 17 lOff2 := by
  refine okLp_of (U := 6) (k := 6) okV4 lOff2 (fun vals _ => match vals with | [_, _, _, _, .int _ k] => (100 - k).toNat | _ => 0) fun vals h Q hl => ?_
  unfold lOff2 at hl
  split at hl
  · rename_i dir' nw rows want k n pi e g fi nl ps fk fa ff ft ro sl dir m1 m2 z sts dvs
    obtain ⟨⟨hd, hd2, h0, h1, hn, h2, hs1, hs2, hm, hst, hw, h3⟩, hq⟩ := hyp_iff.1 hl
    subst hd
    obtain ⟨K, rfl⟩ : ∃ K : Nat, k = K + 1 := ⟨(k - 1).toNat, by omega⟩
    refine to (nfOff2 (i := 0) ..) (br_intro (fun c => ?_) fun c => hq)
    have c := of_decide_eq_true c
    have wi : IntKind.i64.wrap ((K : Int) + 1 + 1) = K + 1 + 1 := wr (by omega) (by omega)
    have wm := dir_mul hd2 (d := (K : Int) + 1) (by omega) (by omega)
    have wd : IntKind.i64.wrap (dir' * ((K : Int) + 1)) = dir' * (K + 1) := wr (by omega) (by omega)
    have hnd : s_rem (sl + dir' * ((K : Int) + 1)) n = s_node n sl dir' (K + 1) := rfl
    have hl := node_lt (n := n) (o := sl) (dir := dir') (by omega) (K + 1)
    have nxt : (100 - ((K : Int) + 1 + 1)).toNat < (100 - ((K : Int) + 1)).toNat := by omega
    obtain ⟨h4, h5⟩ := h3 (K + 1) (by omega) (by omega)
    have eK : ((K : Int) + 1 - 1).toNat = K := by omega
    have eK2 : ((K : Int) + 1 + 1 - 1).toNat = K + 1 := by omega
    rw [eK] at hw
    rw [wi, wd, hnd]
    simp only [chk_iff, hyp_iff, Nat.zero_add]
    have fin : ∀ w, w = bs z (s_offK n sl dir' sts (K + 1)) → (0 ≤ s_node n sl dir' (K + 1) ∧ s_node n sl dir' (K + 1) < (rows.length : Int)) ∧ ((!((rows.getD (s_node n sl dir' (K + 1)).toNat []).getD 2 AV.gone).toS.toList == w.toList) = false) ∧ (((rows.getD (s_node n sl dir' (K + 1)).toNat []).getD 3 AV.gone).toI != (K : Int) + 1) = false := fun w hw2 => by
      refine ⟨⟨hl.1, by omega⟩, str_eq (by rw [hw2]; exact h4), ?_⟩
      have : ((rows.getD (s_node n sl dir' (K + 1)).toNat []).getD 3 AV.gone).toI = (K : Int) + 1 := h5
      rw [this]; simp
    refine ⟨⟨by omega, by omega, by omega, by omega, wm.1, wm.2⟩, ⟨hl.1, by omega⟩, by omega, br_intro (fun c1 => ?_) fun c1 => ?_⟩
    · have c1 : s_int sts (s_node n sl dir' (K + 1)) = 0 := beq_iff_eq.1 c1
      have hoff : s_offK n sl dir' sts (K + 1) = false := by
        show (_ && !(s_int sts _ == 0)) = false
        rw [c1]; simp
      have f := fin (ByteArray.mk #[]) (by rw [hoff]; rfl)
      refine ⟨f.1, br_intro (fun c2 => absurd (c2.symm.trans f.2.1) (by simp)) fun _ => ⟨f.1, br_intro (fun c2 => absurd (c2.symm.trans f.2.2) (by simp)) fun _ => ⟨nxt, hyp_iff.2 ⟨⟨rfl, hd2, by omega, by omega, hn, h2, hs1, hs2, hm, hst, by rw [eK2, hoff]; rfl, h3⟩, hq⟩⟩⟩⟩
    · have c1 : s_int sts (s_node n sl dir' (K + 1)) ≠ 0 := beq_eq_false_iff_ne.1 c1
      have hoff : s_offK n sl dir' sts (K + 1) = s_offK n sl dir' sts K := by
        show (_ && !(s_int sts _ == 0)) = _
        rw [beq_eq_false_iff_ne.2 c1]; simp
      have f := fin want (by rw [hoff]; exact hw)
      refine ⟨f.1, br_intro (fun c2 => absurd (c2.symm.trans f.2.1) (by simp)) fun _ => ⟨f.1, br_intro (fun c2 => absurd (c2.symm.trans f.2.2) (by simp)) fun _ => ⟨nxt, hyp_iff.2 ⟨⟨rfl, hd2, by omega, by omega, hn, h2, hs1, hs2, hm, hst, by rw [eK2, hoff]; exact hw, h3⟩, hq⟩⟩⟩⟩
  · exact hl.elim
theorem okW6L : OkSp Try.prog H0 W6L := ⟨okV4.fn, okLOff1, okLOff2, trivial⟩
theorem off_mono (n sl dir : Int) (sts : List (List AV)) (k : Nat) (h : s_offK n sl dir sts (k + 1) = true) : s_offK n sl dir sts k = true := by
  have : (s_offK n sl dir sts k && !(s_int sts (s_node n sl dir (k + 1)) == 0)) = true := h
  rw [Bool.and_eq_true] at this
  exact this.1
theorem oK_off {pass : Int → Int → Bool} {n sl dir : Int} {sts : List (List AV)} (hp : ∀ a b, pass a b = true) :
    ∀ k, oK pass (fun i => !(s_int sts i == 0)) true (s_node n sl dir) k = s_offK n sl dir sts k
  | 0 => rfl
  | 1 => by
    simp only [oK, hp, s_offK]
    simp
  | k + 2 => by
    have h1 := oK_off hp (k + 1) (n := n) (sl := sl) (dir := dir) (sts := sts)
    have h0 := oK_off hp k (n := n) (sl := sl) (dir := dir) (sts := sts)
    show ((!(s_int sts (s_node n sl dir (k + 2)) == 0)) && ((pass _ _ && oK pass _ true _ (k + 1)) && (pass _ _ && oK pass _ true _ k))) = (s_offK n sl dir sts (k + 1) && !(s_int sts (s_node n sl dir (k + 1 + 1)) == 0))
    rw [h1, h0, hp, hp]
    have hm := off_mono n sl dir sts k
    cases ha : s_offK n sl dir sts (k + 1) with
    | false => simp
    | true => rw [hm ha]; simp
theorem off_out {P : RP} (hok : s_runOk P) {m : Nat} (hm : (m : Int) = P.n) (hd : P.dvs = s_rep m 0) (hk : P.kind = 0) {z : ByteArray} (hz : s_clean z = z) {j : Nat} (j1 : (j : Int) < P.n) :
    s_outI (s_runS P z (P.n - 1).toNat) (s_node P.n P.sl P.dir j) = bs z (s_offK P.n P.sl P.dir P.sts j) ∧ s_farI (s_runS P z (P.n - 1).toNat) (s_node P.n P.sl P.dir j) = j := by
  have hl := node_lt (n := P.n) (o := P.sl) (dir := P.dir) (by have := hok.1; omega) j
  have e1 := get_out hok hz (i := (s_node P.n P.sl P.dir j).toNat) (by omega)
  have e2 := get_far hok hz (i := (s_node P.n P.sl P.dir j).toNat) (by omega)
  have hf := far_node hok.2.2.1 hok.2.2.2.1 hok.2.2.2.2.1 j1
  rw [Int.toNat_of_nonneg hl.1, hf] at e1 e2
  refine ⟨?_, e2⟩
  show s_out2 _ = _
  unfold s_out2
  rw [e1, Int.toNat_natCast]
  have hp : ∀ a b, passP P a b = true := fun a b => by
    unfold passP s_hit
    rw [hk]
    rfl
  have hg := calm_grd hok hm hd
  have hh : oP P j = s_offK P.n P.sl P.dir P.sts j := by
    show oK (passP P) (onP P) (grdP P) _ j = _
    rw [hg]
    exact oK_off hp j
  rw [hh]
theorem off_holds (n pi e g fi : Int) (nl : Bool) (ps : List (List AV)) (slot : Int) (nlo : Bool) (offs : List (List AV)) (k r sl pk pv : Int) (nl2 : Bool) (ec : List (List AV)) (nl3 : Bool) (ns : List (List AV)) (up : Bool) :
    inlW Try.prog H0 W6L 6 (InO Try.prog H0 W6L 6 6) 6 [cf n pi e g fi nl ps, .int .i64 slot, .row nlo [.bool] offs, .agg [.int .i64 k, .int .i64 r, .int .i64 sl, .int .i64 pk, .int .i64 pv, .row nl2 [.int .i64, .int .i64] ec], .row nl3 [.int .i64] ns, .bool up] [] (fun r => r.1 = .bool true) := by
  have main : ∀ dir : Int, (dir = 1 ∨ dir = -1) → ∀ (n' pi' e' g' fi' : Int) (qs : List Int) (m : Nat) (z : ByteArray) (sts : List (List AV)), s_made n' pi' e' g' fi' qs → (m : Int) = n' → s_clean z = z → z.size ≤ 1000 → sts.length = m →
      s_confOk n' pi' e' g' fi' (List.map (fun r => (r.getD (0 : Nat) AV.gone).toI) (List.map (fun n => [AV.int IntKind.i64 n]) qs)) = true ∧
      s_runOk ⟨n', dir, 0, 0, 0, 1000, 0, s_rem slot n', pi', sts, s_rep m 0⟩ ∧ (0 ≤ s_rem slot n' ∧ s_rem slot n' < n') ∧
      (s_runS ⟨n', dir, 0, 0, 0, 1000, 0, s_rem slot n', pi', sts, s_rep m 0⟩ z (n' - 1).toNat).length = n'.toNat ∧
      ∀ j : Nat, 0 < j → (j : Int) < n' → s_outI (s_runS ⟨n', dir, 0, 0, 0, 1000, 0, s_rem slot n', pi', sts, s_rep m 0⟩ z (n' - 1).toNat) (s_node n' (s_rem slot n') dir j) = bs z (s_offK n' (s_rem slot n') dir sts j) ∧
        s_farI (s_runS ⟨n', dir, 0, 0, 0, 1000, 0, s_rem slot n', pi', sts, s_rep m 0⟩ z (n' - 1).toNat) (s_node n' (s_rem slot n') dir j) = j := by
    intro dir hd n' pi' e' g' fi' qs m z sts hm hmn hz hsz hst
    have hc : s_confOk n' pi' e' g' fi' (List.map (fun r => (r.getD (0 : Nat) AV.gone).toI) (List.map (fun n => [AV.int IntKind.i64 n]) qs)) = true := cfMade_ok hm
    have hp := mades hm
    have hn := hm.1
    have hn2 := hm.2.1
    have hs := rem_lt slot (show 0 < n' by omega)
    have hok : s_runOk ⟨n', dir, 0, 0, 0, 1000, 0, s_rem slot n', pi', sts, s_rep m 0⟩ := ⟨hn, hn2, hd, hs.1, hs.2, Int.le_refl 0, (by decide : (0 : Int) ≤ 1000000), hp.1, (by show pi' ≤ 1000000; omega), (by show (sts.length : Int) = n'; omega), (by show ((s_rep m 0).length : Int) = n'; rw [rep_len]; exact hmn)⟩
    exact ⟨hc, hok, hs, run_len hok hz, fun j _ j1 => off_out hok hmn rfl rfl hz j1⟩
  refine to (nfOff ..) (br_intro (fun _ => ?_) fun _ => ?_)
  · intro n' pi' e' g' fi' nl' qs m z hz
    obtain ⟨hm, hmn, hz, hz0, hsz⟩ := hz
    have hn := hm.1
    have hn2 := hm.2.1
    refine hyp_iff.2 ⟨⟨by omega, by omega, by omega, hmn, rep_len m 4⟩, fun sts hst => ?_⟩
    obtain ⟨hc, hok, hs, hl, ho⟩ := main (-1) (.inr rfl) n' pi' e' g' fi' qs m z sts hm hmn hz hsz hst
    have ht : List.take m (List.drop 0 sts) = sts := by rw [List.drop_zero, List.take_of_length_le (Nat.le_of_eq hst)]
    simp only [chk_iff, hyp_iff, rep_take, rep_len, ht]
    refine ⟨by omega, by omega, ⟨hc, trivial, hok, by omega⟩, fun rows hr => br_intro (fun c => absurd c (by rw [hr, hl]; simp; omega)) fun _ => ⟨⟨trivial, .inr trivial, by omega, by omega, by rw [hr, hl]; omega, by omega, hs.1, hs.2, hmn, hst, trivial, fun j j0 j1 => by rw [hr]; exact ho j j0 j1⟩, trivial⟩⟩
  · intro n' pi' e' g' fi' nl' qs m z hz
    obtain ⟨hm, hmn, hz, hz0, hsz⟩ := hz
    have hn := hm.1
    have hn2 := hm.2.1
    refine hyp_iff.2 ⟨⟨by omega, by omega, by omega, hmn, rep_len m 4⟩, fun sts hst => ?_⟩
    obtain ⟨hc, hok, hs, hl, ho⟩ := main 1 (.inl rfl) n' pi' e' g' fi' qs m z sts hm hmn hz hsz hst
    have ht : List.take m (List.drop 0 sts) = sts := by rw [List.drop_zero, List.take_of_length_le (Nat.le_of_eq hst)]
    simp only [chk_iff, hyp_iff, rep_take, rep_len, ht]
    refine ⟨by omega, by omega, ⟨hc, trivial, hok, by omega⟩, fun rows hr => br_intro (fun c => absurd c (by rw [hr, hl]; simp; omega)) fun _ => ⟨⟨trivial, .inl trivial, by omega, by omega, by rw [hr, hl]; omega, by omega, hs.1, hs.2, hmn, hst, trivial, fun j j0 j1 => by rw [hr]; exact ho j j0 j1⟩, trivial⟩⟩
end Go.Proofs.YtiemjcchlfbglaaE
