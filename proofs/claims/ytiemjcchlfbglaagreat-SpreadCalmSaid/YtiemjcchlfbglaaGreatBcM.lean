/- Cases of the laws of spread, made: specs. -/
import Derived.Test.YtiemjcchlfbglaaGreatBcK
import Derived.KernelRfl
namespace Go.Proofs.YtiemjcchlfbglaaGreatE
open Go
set_option linter.unusedVariables false

def sOwnDr : SW := fun args h Q => match args, h with
  | [.agg [.int .i64 n, .int .i64 pi, .int .i64 e, .int .i64 g, .int .i64 fi, .row nl [.int .i64] ps], .int .i64 slot], [] => Hyp (6 ≤ n ∧ n ≤ 12 ∧ ps.length ≤ 3 ∧ (∀ r ∈ ps, ∃ p : Int, r = [.int .i64 p] ∧ -1 ≤ p ∧ p < n)) ∧ ∀ (nl' : Bool) (rows : List (List AV)), rows.length ≤ 2 → Q (.row nl' [.int .i64] rows, [])
  | _, _ => False
def s_strs (rows : List (List AV)) : Prop := ∀ r ∈ rows, ∃ s : ByteArray, r = [.str s] ∧ s.size ≤ 1000
def s_devs (pi : Int) (m : Nat) (dv : List Int) : Prop := dv.length = m ∧ ∀ d ∈ dv, -(2 * pi) ≤ d ∧ d ≤ 2 * pi
def lMkA1 (i n : Int) (ps os : List (List AV)) (E : Ex → List AV → List AObj → Prop) (v : List AV) (zb xb : List AV) (A : AV) (rest : List AObj) : Prop := match A, rest with
  | .nils, [] => Hyp (i = 0 ∧ os.length ≤ 2 ∧ 6 ≤ n ∧ n ≤ 12 ∧ ps.length ≤ 3) ∧ (E (.exit 0) v [.box zb, .box (xb ++ [.nils, .nils, .nils])] ∧ ∀ rows : List (List AV), rows.length ≤ 2 → s_strs rows → E (.exit 0) v [.box zb, .box (xb ++ [.sl 2 0 rows.length, .nils, .nils]), .arr 2 9 [.str] rows])
  | .sl 3 0 m, [.arr 2 9 [.str] rs] => (i = m ∧ rs.length = m ∧ 0 < m ∧ m ≤ os.length ∧ s_strs rs ∧ os.length ≤ 2 ∧ 6 ≤ n ∧ n ≤ 12 ∧ ps.length ≤ 3) ∧ ∀ rows : List (List AV), rows.length ≤ 2 → s_strs rows → E (.exit 0) v [.box zb, .box (xb ++ [.sl 2 0 rows.length, .nils, .nils]), .arr 2 9 [.str] rows]
  | _, _ => False
def lMkA3 (nl4 : Bool) (ns : List (List AV)) (os : List (List AV)) (i : Int) (Q : Ex → List AV → List AObj → Prop) (h : List AObj) : Prop := match h with
  | .box [.int .i64 z0, .int .i64 z1, .int .i64 z2, .int .i64 z3, .int .i64 z4, .nils, .int .i64 z5, .int .i64 z6, .int .i64 z7, .int .i64 z8, .nils, .nils, .int .i64 z9, .int .i64 z10, .int .i64 z11, .nils, .nils, .nils] :: .box [.int .i64 n, .int .i64 pi, .int .i64 e, .int .i64 g, .int .i64 fi, .row nl [.int .i64] ps, .int .i64 fk, .int .i64 fa, .int .i64 ff, .int .i64 ft, .row nl1 [.int .i64, .int .i64, .str] acts, .row nl2 [.int .i64] ds, .int .i64 ro, .int .i64 sl', .int .i64 dir, A, .nils, .nils] :: rest => lMkA1 i n ps os Q [.row nl4 [.int .i64] ns, .bool true, .ptr 0 0, .ptr 1 0] [.int .i64 z0, .int .i64 z1, .int .i64 z2, .int .i64 z3, .int .i64 z4, .nils, .int .i64 z5, .int .i64 z6, .int .i64 z7, .int .i64 z8, .nils, .nils, .int .i64 z9, .int .i64 z10, .int .i64 z11, .nils, .nils, .nils] [.int .i64 n, .int .i64 pi, .int .i64 e, .int .i64 g, .int .i64 fi, .row nl [.int .i64] ps, .int .i64 fk, .int .i64 fa, .int .i64 ff, .int .i64 ft, .row nl1 [.int .i64, .int .i64, .str] acts, .row nl2 [.int .i64] ds, .int .i64 ro, .int .i64 sl', .int .i64 dir] A rest
  | _ => False
def lMkA2 (nl4 : Bool) (ns : List (List AV)) (os : List (List AV)) (i : Int) (Q : Ex → List AV → List AObj → Prop) (h : List AObj) : Prop := match h with
  | .box [.int .i64 k, .int .i64 r, .int .i64 sl, .int .i64 pk, .int .i64 pv, .row nl3 [.int .i64, .int .i64] ec] :: h' => lMkA3 nl4 ns os i Q h'
  | _ => False
def lMkA : LW := fun vals h Q => match vals with
  | [.row nl4 [.int .i64] ns, .bool true, .ptr 0 0, .ptr 1 0, .ptr 2 0, .row nlo [.int .i64] os, .int .i64 i] => lMkA2 nl4 ns os i Q h
  | _ => False
def lMkB1 (i n pi : Int) (E : Ex → List AV → List AObj → Prop) (zb xb : List AV) (S A D : AV) (rest : List AObj) : Prop := match S, A, D, rest with
  | .nils, .nils, .nils, [] => Hyp (i = 0 ∧ 6 ≤ n ∧ n ≤ 12 ∧ 4 ≤ pi ∧ pi ≤ 1000) ∧ ∀ (m' : Nat) (dv : List Int), (m' : Int) = n → s_devs pi m' dv → E (.exit 2) [.ptr 0 0, .ptr 1 0] [.box zb, .box (xb ++ [.nils, .sl 2 0 m', .sl 3 0 m']), .arr 2 3 [.int .i64] (s_rep m' 4), .arr 2 3 [.int .i64] (irow .i64 dv)]
  | .nils, .sl 2 0 m, .sl 3 0 m2, [.arr 2 3 [.int .i64] sts, .arr 2 3 [.int .i64] dvs] => (i = m ∧ m2 = m ∧ i ≤ n ∧ 6 ≤ n ∧ n ≤ 12 ∧ 4 ≤ pi ∧ pi ≤ 1000 ∧ sts = s_rep m 4 ∧ ∃ dv0, dvs = irow .i64 dv0 ∧ s_devs pi m dv0) ∧ ∀ (m' : Nat) (dv : List Int), (m' : Int) = n → s_devs pi m' dv → E (.exit 2) [.ptr 0 0, .ptr 1 0] [.box zb, .box (xb ++ [.nils, .sl 2 0 m', .sl 3 0 m']), .arr 2 3 [.int .i64] (s_rep m' 4), .arr 2 3 [.int .i64] (irow .i64 dv)]
  | .sl 2 0 ms, .nils, .nils, [.arr 2 9 [.str] ss] => Hyp (i = 0 ∧ 6 ≤ n ∧ n ≤ 12 ∧ 4 ≤ pi ∧ pi ≤ 1000) ∧ ∀ (m' : Nat) (dv : List Int), (m' : Int) = n → s_devs pi m' dv → E (.exit 2) [.ptr 0 0, .ptr 1 0] [.box zb, .box (xb ++ [.sl 2 0 ms, .sl 3 0 m', .sl 4 0 m']), .arr 2 9 [.str] ss, .arr 2 3 [.int .i64] (s_rep m' 4), .arr 2 3 [.int .i64] (irow .i64 dv)]
  | .sl 2 0 ms, .sl 3 0 m, .sl 4 0 m2, [.arr 2 9 [.str] ss, .arr 2 3 [.int .i64] sts, .arr 2 3 [.int .i64] dvs] => (i = m ∧ m2 = m ∧ i ≤ n ∧ 6 ≤ n ∧ n ≤ 12 ∧ 4 ≤ pi ∧ pi ≤ 1000 ∧ sts = s_rep m 4 ∧ ∃ dv0, dvs = irow .i64 dv0 ∧ s_devs pi m dv0) ∧ ∀ (m' : Nat) (dv : List Int), (m' : Int) = n → s_devs pi m' dv → E (.exit 2) [.ptr 0 0, .ptr 1 0] [.box zb, .box (xb ++ [.sl 2 0 ms, .sl 3 0 m', .sl 4 0 m']), .arr 2 9 [.str] ss, .arr 2 3 [.int .i64] (s_rep m' 4), .arr 2 3 [.int .i64] (irow .i64 dv)]
  | _, _, _, _ => False
def lMkB : LW := fun vals h Q => match vals, h with
  | [.row nl4 [.int .i64] ns, .bool true, .ptr 0 0, .ptr 1 0, .int .i64 i], .box [.int .i64 z0, .int .i64 z1, .int .i64 z2, .int .i64 z3, .int .i64 z4, .nils, .int .i64 z5, .int .i64 z6, .int .i64 z7, .int .i64 z8, .nils, .nils, .int .i64 z9, .int .i64 z10, .int .i64 z11, .nils, .nils, .nils] :: .box [.int .i64 n, .int .i64 pi, .int .i64 e, .int .i64 g, .int .i64 fi, .row nl [.int .i64] ps, .int .i64 fk, .int .i64 fa, .int .i64 ff, .int .i64 ft, .row nl1 [.int .i64, .int .i64, .str] acts, .row nl2 [.int .i64] ds, .int .i64 ro, .int .i64 sl', .int .i64 dir, S, A, D] :: rest => lMkB1 i n pi Q [.int .i64 z0, .int .i64 z1, .int .i64 z2, .int .i64 z3, .int .i64 z4, .nils, .int .i64 z5, .int .i64 z6, .int .i64 z7, .int .i64 z8, .nils, .nils, .int .i64 z9, .int .i64 z10, .int .i64 z11, .nils, .nils, .nils] [.int .i64 n, .int .i64 pi, .int .i64 e, .int .i64 g, .int .i64 fi, .row nl [.int .i64] ps, .int .i64 fk, .int .i64 fa, .int .i64 ff, .int .i64 ft, .row nl1 [.int .i64, .int .i64, .str] acts, .row nl2 [.int .i64] ds, .int .i64 ro, .int .i64 sl', .int .i64 dir] S A D rest
  | _, _ => False
def sMake9 : SW := fun args h Q => match args, h with
  | [.agg [.int .i64 n0, .int .i64 pi0, .int .i64 e0, .int .i64 g0, .int .i64 fi0, .row nl0 [.int .i64] ps0], .agg [.int .i64 fk, .int .i64 fa, .int .i64 ff, .int .i64 ft, .row nl1 [.int .i64, .int .i64, .str] acts, .row nl2 [.int .i64] ds], .int .i64 round, .int .i64 slot, .bool up, .agg [.int .i64 k, .int .i64 r, .int .i64 sl, .int .i64 pk, .int .i64 pv, .row nl3 [.int .i64, .int .i64] ec], .row nl4 [.int .i64] ns, .bool true], [] =>
    ∀ (n pi e g fi : Int) (nl : Bool) (qs : List Int) (k' a' f' t' : Int) (nl1' nl2' : Bool) (acts' : List (List AV)) (ds' : List Int) (ro sl' dir : Int) (m : Nat) (dv : List Int),
      s_made n pi e g fi qs ∧ s_fok n k' a' f' t' acts' ds' ∧ 0 ≤ ro ∧ ro ≤ 130 ∧ 0 ≤ sl' ∧ sl' < n + qs.length ∧ dir = (if up then 1 else -1) ∧ (m : Int) = n ∧ s_devs pi m dv →
      (Q (.agg [.int .i64 n, .int .i64 pi, .int .i64 e, .int .i64 g, .int .i64 fi, .row nl [.int .i64] (irow .i64 qs), .int .i64 k', .int .i64 a', .int .i64 f', .int .i64 t', .row nl1' [.int .i64, .int .i64, .str] acts', .row nl2' [.int .i64] (irow .i64 ds'), .int .i64 ro, .int .i64 sl', .int .i64 dir, .nils, .sl 0 0 m, .sl 1 0 m], [.arr 2 3 [.int .i64] (s_rep m 4), .arr 2 3 [.int .i64] (irow .i64 dv)]) ∧
       ∀ rows : List (List AV), rows.length ≤ 2 → s_strs rows → Q (.agg [.int .i64 n, .int .i64 pi, .int .i64 e, .int .i64 g, .int .i64 fi, .row nl [.int .i64] (irow .i64 qs), .int .i64 k', .int .i64 a', .int .i64 f', .int .i64 t', .row nl1' [.int .i64, .int .i64, .str] acts', .row nl2' [.int .i64] (irow .i64 ds'), .int .i64 ro, .int .i64 sl', .int .i64 dir, .sl 0 0 rows.length, .sl 1 0 m, .sl 2 0 m], [.arr 2 9 [.str] rows, .arr 2 3 [.int .i64] (s_rep m 4), .arr 2 3 [.int .i64] (irow .i64 dv)]))
  | _, _ => False
def Y2o : Sp := ⟨(20, sOwnDr) :: Y1.fn, []⟩
def Y2L : Sp := ⟨Y2o.fn, [(9, 11, lMkA), (9, 21, lMkB)]⟩
end Go.Proofs.YtiemjcchlfbglaaGreatE
/- What path mode says of functions, printed by a program of this session; the kernel holds each. -/
namespace Go.Proofs.YtiemjcchlfbglaaGreatE
open Go
set_option maxRecDepth 100000
set_option linter.unusedVariables false
theorem nfOwnD (n pi e g fi : Int) (nl : Bool) (ps : List (List AV)) (slot : Int) (Q : AV × List AObj → Prop) : inlW Tryz.prog H0 Y1 6 (InO Tryz.prog H0 Y1 6 6) 20 [cf n pi e g fi nl ps, .int .i64 slot] [] Q = (
br (decide (slot < (0 : Int)))
 (Q ((AV.row true [K.int IntKind.i64] [], [])))
 (br (decide (slot ≥ IntKind.i64.wrap (n + (↑ps.length : Int))))
  (Q ((AV.row true [K.int IntKind.i64] [], [])))
  (br (decide (slot < n))
   (Q ((AV.row false [K.int IntKind.i64] [[AV.int IntKind.i64 slot]], [])))
   (chk ((0 : Int) ≤ IntKind.i64.wrap (slot - n) ∧ IntKind.i64.wrap (slot - n) < (↑ps.length : Int)) (br (decide (((ps.getD (IntKind.i64.wrap (slot - n)).toNat []).getD (0 : Nat) AV.gone).toI < (0 : Int)))
    (Q ((AV.row true [K.int IntKind.i64] [], [])))
    (chk ((0 : Int) ≤ IntKind.i64.wrap (slot - n) ∧ IntKind.i64.wrap (slot - n) < (↑ps.length : Int)) (chk (n ≠ (0 : Int)) (Q ((AV.row false [K.int IntKind.i64]
    [[AV.int IntKind.i64 ((ps.getD (IntKind.i64.wrap (slot - n)).toNat []).getD (0 : Nat) AV.gone).toI],
      [AV.int IntKind.i64
          ((IntKind.i64.wrap
                (((ps.getD (IntKind.i64.wrap (slot - n)).toNat []).getD (0 : Nat) AV.gone).toI + (1 : Int))).tmod
            n)]],
  [])))))))))) := by kernel_rfl
theorem nfMkA1 (n pi e g fi fk fa ff ft ro sl' dir z0 z1 z2 z3 z4 z5 z6 z7 z8 z9 z10 z11 i k r sl pk pv : Int) (nl nl1 nl2 nl4 : Bool) (ps acts ds ns : List (List AV)) (nl3 nlo : Bool) (ec os : List (List AV)) (Q : Ex → List AV → List AObj → Prop) : lpBody Tryz.prog H0 Y2o 6 6 9 11 [.row nl4 [.int .i64] ns, .bool true, .ptr 0 0, .ptr 1 0, .ptr 2 0, .row nlo [.int .i64] os, .int .i64 i] [.box [.int .i64 k, .int .i64 r, .int .i64 sl, .int .i64 pk, .int .i64 pv, .row nl3 [.int .i64, .int .i64] ec], .box [.int .i64 z0, .int .i64 z1, .int .i64 z2, .int .i64 z3, .int .i64 z4, .nils, .int .i64 z5, .int .i64 z6, .int .i64 z7, .int .i64 z8, .nils, .nils, .int .i64 z9, .int .i64 z10, .int .i64 z11, .nils, .nils, .nils], .box [.int .i64 n, .int .i64 pi, .int .i64 e, .int .i64 g, .int .i64 fi, .row nl [.int .i64] ps, .int .i64 fk, .int .i64 fa, .int .i64 ff, .int .i64 ft, .row nl1 [.int .i64, .int .i64, .str] acts, .row nl2 [.int .i64] ds, .int .i64 ro, .int .i64 sl', .int .i64 dir, .nils, .nils, .nils]] Q = (
br (decide (i < (↑os.length : Int)))
 (((Hyp ((6 : Int) ≤ n ∧ n ≤ (12 : Int) ∧ ps.length ≤ (3 : Nat))) ∧
 ((∀ (k'102 : Int),
 (∀ (r'103 : Int),
 (∀ (sl'104 : Int),
 (∀ (pk'105 : Int),
 (∀ (pv'106 : Int),
 (∀ (nl'107 : Bool),
 (∀ (rows108 : List (List AV)),
 ((rows108.length ≤ (15 : Nat)) →
 br (decide (i > (0 : Int)))
  (br (decide ((↑ns.length : Int) > (0 : Int)))
   (chk ((0 : Int) ≤ (0 : Int) ∧ (0 : Int) < (↑ns.length : Int)) (br (s_rem ((ns.getD (0 : Nat) []).getD (0 : Nat) AV.gone).toI (3 : Int) == (0 : Int))
    (chk ((0 : Int) ≤ (0 : Int) ∧ (0 : Int) < (↑ns.length : Int)) ((∀ (k115 : Int),
    (∀ (v116 : Int),
    ((Hyp (rows108.length ≤ (30 : Nat))) ∧
    ((∀ (z118 : ByteArray),
    ((s_clean z118 = z118 ∧ (0 : Nat) < z118.size ∧ z118.size ≤ (1000 : Nat)) →
    br (decide ((↑ns.length : Int) > (1 : Int)))
     (chk ((0 : Int) ≤ (1 : Int) ∧ (1 : Int) < (↑ns.length : Int)) (br (s_rem ((ns.getD (1 : Nat) []).getD (0 : Nat) AV.gone).toI (8 : Int) == (0 : Int))
      (Q (Ex.nrm) ([AV.row nl4 [K.int IntKind.i64] ns, AV.bool true, AV.ptr (0 : Nat) (0 : Nat), AV.ptr (1 : Nat) (0 : Nat),
  AV.ptr (2 : Nat) (0 : Nat), AV.row nlo [K.int IntKind.i64] os, AV.int IntKind.i64 (IntKind.i64.wrap (i + (1 : Int)))]) ([AObj.box
    [AV.int IntKind.i64 k, AV.int IntKind.i64 r, AV.int IntKind.i64 sl, AV.int IntKind.i64 pk, AV.int IntKind.i64 pv,
      AV.row nl3 [K.int IntKind.i64, K.int IntKind.i64] ec],
  AObj.box
    [AV.int IntKind.i64 z0, AV.int IntKind.i64 z1, AV.int IntKind.i64 z2, AV.int IntKind.i64 z3, AV.int IntKind.i64 z4,
      AV.nils, AV.int IntKind.i64 z5, AV.int IntKind.i64 z6, AV.int IntKind.i64 z7, AV.int IntKind.i64 z8, AV.nils,
      AV.nils, AV.int IntKind.i64 z9, AV.int IntKind.i64 z10, AV.int IntKind.i64 z11, AV.nils, AV.nils, AV.nils],
  AObj.box
    [AV.int IntKind.i64 n, AV.int IntKind.i64 pi, AV.int IntKind.i64 e, AV.int IntKind.i64 g, AV.int IntKind.i64 fi,
      AV.row nl [K.int IntKind.i64] ps, AV.int IntKind.i64 fk, AV.int IntKind.i64 fa, AV.int IntKind.i64 ff,
      AV.int IntKind.i64 ft, AV.row nl1 [K.int IntKind.i64, K.int IntKind.i64, K.str] acts,
      AV.row nl2 [K.int IntKind.i64] ds, AV.int IntKind.i64 ro, AV.int IntKind.i64 sl', AV.int IntKind.i64 dir,
      AV.sl (3 : Nat) (0 : Nat) (1 : Nat), AV.nils, AV.nils],
  AObj.arr (2 : Nat) (9 : Nat) [K.str] [[AV.str (ByteArray.mk #[])]]]))
      (Q (Ex.nrm) ([AV.row nl4 [K.int IntKind.i64] ns, AV.bool true, AV.ptr (0 : Nat) (0 : Nat), AV.ptr (1 : Nat) (0 : Nat),
  AV.ptr (2 : Nat) (0 : Nat), AV.row nlo [K.int IntKind.i64] os, AV.int IntKind.i64 (IntKind.i64.wrap (i + (1 : Int)))]) ([AObj.box
    [AV.int IntKind.i64 k, AV.int IntKind.i64 r, AV.int IntKind.i64 sl, AV.int IntKind.i64 pk, AV.int IntKind.i64 pv,
      AV.row nl3 [K.int IntKind.i64, K.int IntKind.i64] ec],
  AObj.box
    [AV.int IntKind.i64 z0, AV.int IntKind.i64 z1, AV.int IntKind.i64 z2, AV.int IntKind.i64 z3, AV.int IntKind.i64 z4,
      AV.nils, AV.int IntKind.i64 z5, AV.int IntKind.i64 z6, AV.int IntKind.i64 z7, AV.int IntKind.i64 z8, AV.nils,
      AV.nils, AV.int IntKind.i64 z9, AV.int IntKind.i64 z10, AV.int IntKind.i64 z11, AV.nils, AV.nils, AV.nils],
  AObj.box
    [AV.int IntKind.i64 n, AV.int IntKind.i64 pi, AV.int IntKind.i64 e, AV.int IntKind.i64 g, AV.int IntKind.i64 fi,
      AV.row nl [K.int IntKind.i64] ps, AV.int IntKind.i64 fk, AV.int IntKind.i64 fa, AV.int IntKind.i64 ff,
      AV.int IntKind.i64 ft, AV.row nl1 [K.int IntKind.i64, K.int IntKind.i64, K.str] acts,
      AV.row nl2 [K.int IntKind.i64] ds, AV.int IntKind.i64 ro, AV.int IntKind.i64 sl', AV.int IntKind.i64 dir,
      AV.sl (3 : Nat) (0 : Nat) (1 : Nat), AV.nils, AV.nils],
  AObj.arr (2 : Nat) (9 : Nat) [K.str] [[AV.str z118]]]))))
     (Q (Ex.nrm) ([AV.row nl4 [K.int IntKind.i64] ns, AV.bool true, AV.ptr (0 : Nat) (0 : Nat), AV.ptr (1 : Nat) (0 : Nat),
  AV.ptr (2 : Nat) (0 : Nat), AV.row nlo [K.int IntKind.i64] os, AV.int IntKind.i64 (IntKind.i64.wrap (i + (1 : Int)))]) ([AObj.box
    [AV.int IntKind.i64 k, AV.int IntKind.i64 r, AV.int IntKind.i64 sl, AV.int IntKind.i64 pk, AV.int IntKind.i64 pv,
      AV.row nl3 [K.int IntKind.i64, K.int IntKind.i64] ec],
  AObj.box
    [AV.int IntKind.i64 z0, AV.int IntKind.i64 z1, AV.int IntKind.i64 z2, AV.int IntKind.i64 z3, AV.int IntKind.i64 z4,
      AV.nils, AV.int IntKind.i64 z5, AV.int IntKind.i64 z6, AV.int IntKind.i64 z7, AV.int IntKind.i64 z8, AV.nils,
      AV.nils, AV.int IntKind.i64 z9, AV.int IntKind.i64 z10, AV.int IntKind.i64 z11, AV.nils, AV.nils, AV.nils],
  AObj.box
    [AV.int IntKind.i64 n, AV.int IntKind.i64 pi, AV.int IntKind.i64 e, AV.int IntKind.i64 g, AV.int IntKind.i64 fi,
      AV.row nl [K.int IntKind.i64] ps, AV.int IntKind.i64 fk, AV.int IntKind.i64 fa, AV.int IntKind.i64 ff,
      AV.int IntKind.i64 ft, AV.row nl1 [K.int IntKind.i64, K.int IntKind.i64, K.str] acts,
      AV.row nl2 [K.int IntKind.i64] ds, AV.int IntKind.i64 ro, AV.int IntKind.i64 sl', AV.int IntKind.i64 dir,
      AV.sl (3 : Nat) (0 : Nat) (1 : Nat), AV.nils, AV.nils],
  AObj.arr (2 : Nat) (9 : Nat) [K.str] [[AV.str z118]]]))))))))))
    (((Hyp (rows108.length ≤ (30 : Nat))) ∧
    ((∀ (z115 : ByteArray),
    ((s_clean z115 = z115 ∧ (0 : Nat) < z115.size ∧ z115.size ≤ (1000 : Nat)) →
    br (decide ((↑ns.length : Int) > (1 : Int)))
     (chk ((0 : Int) ≤ (1 : Int) ∧ (1 : Int) < (↑ns.length : Int)) (br (s_rem ((ns.getD (1 : Nat) []).getD (0 : Nat) AV.gone).toI (8 : Int) == (0 : Int))
      (Q (Ex.nrm) ([AV.row nl4 [K.int IntKind.i64] ns, AV.bool true, AV.ptr (0 : Nat) (0 : Nat), AV.ptr (1 : Nat) (0 : Nat),
  AV.ptr (2 : Nat) (0 : Nat), AV.row nlo [K.int IntKind.i64] os, AV.int IntKind.i64 (IntKind.i64.wrap (i + (1 : Int)))]) ([AObj.box
    [AV.int IntKind.i64 k, AV.int IntKind.i64 r, AV.int IntKind.i64 sl, AV.int IntKind.i64 pk, AV.int IntKind.i64 pv,
      AV.row nl3 [K.int IntKind.i64, K.int IntKind.i64] ec],
  AObj.box
    [AV.int IntKind.i64 z0, AV.int IntKind.i64 z1, AV.int IntKind.i64 z2, AV.int IntKind.i64 z3, AV.int IntKind.i64 z4,
      AV.nils, AV.int IntKind.i64 z5, AV.int IntKind.i64 z6, AV.int IntKind.i64 z7, AV.int IntKind.i64 z8, AV.nils,
      AV.nils, AV.int IntKind.i64 z9, AV.int IntKind.i64 z10, AV.int IntKind.i64 z11, AV.nils, AV.nils, AV.nils],
  AObj.box
    [AV.int IntKind.i64 n, AV.int IntKind.i64 pi, AV.int IntKind.i64 e, AV.int IntKind.i64 g, AV.int IntKind.i64 fi,
      AV.row nl [K.int IntKind.i64] ps, AV.int IntKind.i64 fk, AV.int IntKind.i64 fa, AV.int IntKind.i64 ff,
      AV.int IntKind.i64 ft, AV.row nl1 [K.int IntKind.i64, K.int IntKind.i64, K.str] acts,
      AV.row nl2 [K.int IntKind.i64] ds, AV.int IntKind.i64 ro, AV.int IntKind.i64 sl', AV.int IntKind.i64 dir,
      AV.sl (3 : Nat) (0 : Nat) (1 : Nat), AV.nils, AV.nils],
  AObj.arr (2 : Nat) (9 : Nat) [K.str] [[AV.str (ByteArray.mk #[])]]]))
      (Q (Ex.nrm) ([AV.row nl4 [K.int IntKind.i64] ns, AV.bool true, AV.ptr (0 : Nat) (0 : Nat), AV.ptr (1 : Nat) (0 : Nat),
  AV.ptr (2 : Nat) (0 : Nat), AV.row nlo [K.int IntKind.i64] os, AV.int IntKind.i64 (IntKind.i64.wrap (i + (1 : Int)))]) ([AObj.box
    [AV.int IntKind.i64 k, AV.int IntKind.i64 r, AV.int IntKind.i64 sl, AV.int IntKind.i64 pk, AV.int IntKind.i64 pv,
      AV.row nl3 [K.int IntKind.i64, K.int IntKind.i64] ec],
  AObj.box
    [AV.int IntKind.i64 z0, AV.int IntKind.i64 z1, AV.int IntKind.i64 z2, AV.int IntKind.i64 z3, AV.int IntKind.i64 z4,
      AV.nils, AV.int IntKind.i64 z5, AV.int IntKind.i64 z6, AV.int IntKind.i64 z7, AV.int IntKind.i64 z8, AV.nils,
      AV.nils, AV.int IntKind.i64 z9, AV.int IntKind.i64 z10, AV.int IntKind.i64 z11, AV.nils, AV.nils, AV.nils],
  AObj.box
    [AV.int IntKind.i64 n, AV.int IntKind.i64 pi, AV.int IntKind.i64 e, AV.int IntKind.i64 g, AV.int IntKind.i64 fi,
      AV.row nl [K.int IntKind.i64] ps, AV.int IntKind.i64 fk, AV.int IntKind.i64 fa, AV.int IntKind.i64 ff,
      AV.int IntKind.i64 ft, AV.row nl1 [K.int IntKind.i64, K.int IntKind.i64, K.str] acts,
      AV.row nl2 [K.int IntKind.i64] ds, AV.int IntKind.i64 ro, AV.int IntKind.i64 sl', AV.int IntKind.i64 dir,
      AV.sl (3 : Nat) (0 : Nat) (1 : Nat), AV.nils, AV.nils],
  AObj.arr (2 : Nat) (9 : Nat) [K.str] [[AV.str z115]]]))))
     (Q (Ex.nrm) ([AV.row nl4 [K.int IntKind.i64] ns, AV.bool true, AV.ptr (0 : Nat) (0 : Nat), AV.ptr (1 : Nat) (0 : Nat),
  AV.ptr (2 : Nat) (0 : Nat), AV.row nlo [K.int IntKind.i64] os, AV.int IntKind.i64 (IntKind.i64.wrap (i + (1 : Int)))]) ([AObj.box
    [AV.int IntKind.i64 k, AV.int IntKind.i64 r, AV.int IntKind.i64 sl, AV.int IntKind.i64 pk, AV.int IntKind.i64 pv,
      AV.row nl3 [K.int IntKind.i64, K.int IntKind.i64] ec],
  AObj.box
    [AV.int IntKind.i64 z0, AV.int IntKind.i64 z1, AV.int IntKind.i64 z2, AV.int IntKind.i64 z3, AV.int IntKind.i64 z4,
      AV.nils, AV.int IntKind.i64 z5, AV.int IntKind.i64 z6, AV.int IntKind.i64 z7, AV.int IntKind.i64 z8, AV.nils,
      AV.nils, AV.int IntKind.i64 z9, AV.int IntKind.i64 z10, AV.int IntKind.i64 z11, AV.nils, AV.nils, AV.nils],
  AObj.box
    [AV.int IntKind.i64 n, AV.int IntKind.i64 pi, AV.int IntKind.i64 e, AV.int IntKind.i64 g, AV.int IntKind.i64 fi,
      AV.row nl [K.int IntKind.i64] ps, AV.int IntKind.i64 fk, AV.int IntKind.i64 fa, AV.int IntKind.i64 ff,
      AV.int IntKind.i64 ft, AV.row nl1 [K.int IntKind.i64, K.int IntKind.i64, K.str] acts,
      AV.row nl2 [K.int IntKind.i64] ds, AV.int IntKind.i64 ro, AV.int IntKind.i64 sl', AV.int IntKind.i64 dir,
      AV.sl (3 : Nat) (0 : Nat) (1 : Nat), AV.nils, AV.nils],
  AObj.arr (2 : Nat) (9 : Nat) [K.str] [[AV.str z115]]])))))))))
   (((Hyp (rows108.length ≤ (30 : Nat))) ∧
   ((∀ (z113 : ByteArray),
   ((s_clean z113 = z113 ∧ (0 : Nat) < z113.size ∧ z113.size ≤ (1000 : Nat)) →
   br (decide ((↑ns.length : Int) > (1 : Int)))
    (chk ((0 : Int) ≤ (1 : Int) ∧ (1 : Int) < (↑ns.length : Int)) (br (s_rem ((ns.getD (1 : Nat) []).getD (0 : Nat) AV.gone).toI (8 : Int) == (0 : Int))
     (Q (Ex.nrm) ([AV.row nl4 [K.int IntKind.i64] ns, AV.bool true, AV.ptr (0 : Nat) (0 : Nat), AV.ptr (1 : Nat) (0 : Nat),
  AV.ptr (2 : Nat) (0 : Nat), AV.row nlo [K.int IntKind.i64] os, AV.int IntKind.i64 (IntKind.i64.wrap (i + (1 : Int)))]) ([AObj.box
    [AV.int IntKind.i64 k, AV.int IntKind.i64 r, AV.int IntKind.i64 sl, AV.int IntKind.i64 pk, AV.int IntKind.i64 pv,
      AV.row nl3 [K.int IntKind.i64, K.int IntKind.i64] ec],
  AObj.box
    [AV.int IntKind.i64 z0, AV.int IntKind.i64 z1, AV.int IntKind.i64 z2, AV.int IntKind.i64 z3, AV.int IntKind.i64 z4,
      AV.nils, AV.int IntKind.i64 z5, AV.int IntKind.i64 z6, AV.int IntKind.i64 z7, AV.int IntKind.i64 z8, AV.nils,
      AV.nils, AV.int IntKind.i64 z9, AV.int IntKind.i64 z10, AV.int IntKind.i64 z11, AV.nils, AV.nils, AV.nils],
  AObj.box
    [AV.int IntKind.i64 n, AV.int IntKind.i64 pi, AV.int IntKind.i64 e, AV.int IntKind.i64 g, AV.int IntKind.i64 fi,
      AV.row nl [K.int IntKind.i64] ps, AV.int IntKind.i64 fk, AV.int IntKind.i64 fa, AV.int IntKind.i64 ff,
      AV.int IntKind.i64 ft, AV.row nl1 [K.int IntKind.i64, K.int IntKind.i64, K.str] acts,
      AV.row nl2 [K.int IntKind.i64] ds, AV.int IntKind.i64 ro, AV.int IntKind.i64 sl', AV.int IntKind.i64 dir,
      AV.sl (3 : Nat) (0 : Nat) (1 : Nat), AV.nils, AV.nils],
  AObj.arr (2 : Nat) (9 : Nat) [K.str] [[AV.str (ByteArray.mk #[])]]]))
     (Q (Ex.nrm) ([AV.row nl4 [K.int IntKind.i64] ns, AV.bool true, AV.ptr (0 : Nat) (0 : Nat), AV.ptr (1 : Nat) (0 : Nat),
  AV.ptr (2 : Nat) (0 : Nat), AV.row nlo [K.int IntKind.i64] os, AV.int IntKind.i64 (IntKind.i64.wrap (i + (1 : Int)))]) ([AObj.box
    [AV.int IntKind.i64 k, AV.int IntKind.i64 r, AV.int IntKind.i64 sl, AV.int IntKind.i64 pk, AV.int IntKind.i64 pv,
      AV.row nl3 [K.int IntKind.i64, K.int IntKind.i64] ec],
  AObj.box
    [AV.int IntKind.i64 z0, AV.int IntKind.i64 z1, AV.int IntKind.i64 z2, AV.int IntKind.i64 z3, AV.int IntKind.i64 z4,
      AV.nils, AV.int IntKind.i64 z5, AV.int IntKind.i64 z6, AV.int IntKind.i64 z7, AV.int IntKind.i64 z8, AV.nils,
      AV.nils, AV.int IntKind.i64 z9, AV.int IntKind.i64 z10, AV.int IntKind.i64 z11, AV.nils, AV.nils, AV.nils],
  AObj.box
    [AV.int IntKind.i64 n, AV.int IntKind.i64 pi, AV.int IntKind.i64 e, AV.int IntKind.i64 g, AV.int IntKind.i64 fi,
      AV.row nl [K.int IntKind.i64] ps, AV.int IntKind.i64 fk, AV.int IntKind.i64 fa, AV.int IntKind.i64 ff,
      AV.int IntKind.i64 ft, AV.row nl1 [K.int IntKind.i64, K.int IntKind.i64, K.str] acts,
      AV.row nl2 [K.int IntKind.i64] ds, AV.int IntKind.i64 ro, AV.int IntKind.i64 sl', AV.int IntKind.i64 dir,
      AV.sl (3 : Nat) (0 : Nat) (1 : Nat), AV.nils, AV.nils],
  AObj.arr (2 : Nat) (9 : Nat) [K.str] [[AV.str z113]]]))))
    (Q (Ex.nrm) ([AV.row nl4 [K.int IntKind.i64] ns, AV.bool true, AV.ptr (0 : Nat) (0 : Nat), AV.ptr (1 : Nat) (0 : Nat),
  AV.ptr (2 : Nat) (0 : Nat), AV.row nlo [K.int IntKind.i64] os, AV.int IntKind.i64 (IntKind.i64.wrap (i + (1 : Int)))]) ([AObj.box
    [AV.int IntKind.i64 k, AV.int IntKind.i64 r, AV.int IntKind.i64 sl, AV.int IntKind.i64 pk, AV.int IntKind.i64 pv,
      AV.row nl3 [K.int IntKind.i64, K.int IntKind.i64] ec],
  AObj.box
    [AV.int IntKind.i64 z0, AV.int IntKind.i64 z1, AV.int IntKind.i64 z2, AV.int IntKind.i64 z3, AV.int IntKind.i64 z4,
      AV.nils, AV.int IntKind.i64 z5, AV.int IntKind.i64 z6, AV.int IntKind.i64 z7, AV.int IntKind.i64 z8, AV.nils,
      AV.nils, AV.int IntKind.i64 z9, AV.int IntKind.i64 z10, AV.int IntKind.i64 z11, AV.nils, AV.nils, AV.nils],
  AObj.box
    [AV.int IntKind.i64 n, AV.int IntKind.i64 pi, AV.int IntKind.i64 e, AV.int IntKind.i64 g, AV.int IntKind.i64 fi,
      AV.row nl [K.int IntKind.i64] ps, AV.int IntKind.i64 fk, AV.int IntKind.i64 fa, AV.int IntKind.i64 ff,
      AV.int IntKind.i64 ft, AV.row nl1 [K.int IntKind.i64, K.int IntKind.i64, K.str] acts,
      AV.row nl2 [K.int IntKind.i64] ds, AV.int IntKind.i64 ro, AV.int IntKind.i64 sl', AV.int IntKind.i64 dir,
      AV.sl (3 : Nat) (0 : Nat) (1 : Nat), AV.nils, AV.nils],
  AObj.arr (2 : Nat) (9 : Nat) [K.str] [[AV.str z113]]]))))))))
  (((Hyp (rows108.length ≤ (30 : Nat))) ∧
  ((∀ (z112 : ByteArray),
  ((s_clean z112 = z112 ∧ (0 : Nat) < z112.size ∧ z112.size ≤ (1000 : Nat)) →
  br (decide ((↑ns.length : Int) > (1 : Int)))
   (chk ((0 : Int) ≤ (1 : Int) ∧ (1 : Int) < (↑ns.length : Int)) (br (s_rem ((ns.getD (1 : Nat) []).getD (0 : Nat) AV.gone).toI (8 : Int) == (0 : Int))
    (Q (Ex.nrm) ([AV.row nl4 [K.int IntKind.i64] ns, AV.bool true, AV.ptr (0 : Nat) (0 : Nat), AV.ptr (1 : Nat) (0 : Nat),
  AV.ptr (2 : Nat) (0 : Nat), AV.row nlo [K.int IntKind.i64] os, AV.int IntKind.i64 (IntKind.i64.wrap (i + (1 : Int)))]) ([AObj.box
    [AV.int IntKind.i64 k, AV.int IntKind.i64 r, AV.int IntKind.i64 sl, AV.int IntKind.i64 pk, AV.int IntKind.i64 pv,
      AV.row nl3 [K.int IntKind.i64, K.int IntKind.i64] ec],
  AObj.box
    [AV.int IntKind.i64 z0, AV.int IntKind.i64 z1, AV.int IntKind.i64 z2, AV.int IntKind.i64 z3, AV.int IntKind.i64 z4,
      AV.nils, AV.int IntKind.i64 z5, AV.int IntKind.i64 z6, AV.int IntKind.i64 z7, AV.int IntKind.i64 z8, AV.nils,
      AV.nils, AV.int IntKind.i64 z9, AV.int IntKind.i64 z10, AV.int IntKind.i64 z11, AV.nils, AV.nils, AV.nils],
  AObj.box
    [AV.int IntKind.i64 n, AV.int IntKind.i64 pi, AV.int IntKind.i64 e, AV.int IntKind.i64 g, AV.int IntKind.i64 fi,
      AV.row nl [K.int IntKind.i64] ps, AV.int IntKind.i64 fk, AV.int IntKind.i64 fa, AV.int IntKind.i64 ff,
      AV.int IntKind.i64 ft, AV.row nl1 [K.int IntKind.i64, K.int IntKind.i64, K.str] acts,
      AV.row nl2 [K.int IntKind.i64] ds, AV.int IntKind.i64 ro, AV.int IntKind.i64 sl', AV.int IntKind.i64 dir,
      AV.sl (3 : Nat) (0 : Nat) (1 : Nat), AV.nils, AV.nils],
  AObj.arr (2 : Nat) (9 : Nat) [K.str] [[AV.str (ByteArray.mk #[])]]]))
    (Q (Ex.nrm) ([AV.row nl4 [K.int IntKind.i64] ns, AV.bool true, AV.ptr (0 : Nat) (0 : Nat), AV.ptr (1 : Nat) (0 : Nat),
  AV.ptr (2 : Nat) (0 : Nat), AV.row nlo [K.int IntKind.i64] os, AV.int IntKind.i64 (IntKind.i64.wrap (i + (1 : Int)))]) ([AObj.box
    [AV.int IntKind.i64 k, AV.int IntKind.i64 r, AV.int IntKind.i64 sl, AV.int IntKind.i64 pk, AV.int IntKind.i64 pv,
      AV.row nl3 [K.int IntKind.i64, K.int IntKind.i64] ec],
  AObj.box
    [AV.int IntKind.i64 z0, AV.int IntKind.i64 z1, AV.int IntKind.i64 z2, AV.int IntKind.i64 z3, AV.int IntKind.i64 z4,
      AV.nils, AV.int IntKind.i64 z5, AV.int IntKind.i64 z6, AV.int IntKind.i64 z7, AV.int IntKind.i64 z8, AV.nils,
      AV.nils, AV.int IntKind.i64 z9, AV.int IntKind.i64 z10, AV.int IntKind.i64 z11, AV.nils, AV.nils, AV.nils],
  AObj.box
    [AV.int IntKind.i64 n, AV.int IntKind.i64 pi, AV.int IntKind.i64 e, AV.int IntKind.i64 g, AV.int IntKind.i64 fi,
      AV.row nl [K.int IntKind.i64] ps, AV.int IntKind.i64 fk, AV.int IntKind.i64 fa, AV.int IntKind.i64 ff,
      AV.int IntKind.i64 ft, AV.row nl1 [K.int IntKind.i64, K.int IntKind.i64, K.str] acts,
      AV.row nl2 [K.int IntKind.i64] ds, AV.int IntKind.i64 ro, AV.int IntKind.i64 sl', AV.int IntKind.i64 dir,
      AV.sl (3 : Nat) (0 : Nat) (1 : Nat), AV.nils, AV.nils],
  AObj.arr (2 : Nat) (9 : Nat) [K.str] [[AV.str z112]]]))))
   (Q (Ex.nrm) ([AV.row nl4 [K.int IntKind.i64] ns, AV.bool true, AV.ptr (0 : Nat) (0 : Nat), AV.ptr (1 : Nat) (0 : Nat),
  AV.ptr (2 : Nat) (0 : Nat), AV.row nlo [K.int IntKind.i64] os, AV.int IntKind.i64 (IntKind.i64.wrap (i + (1 : Int)))]) ([AObj.box
    [AV.int IntKind.i64 k, AV.int IntKind.i64 r, AV.int IntKind.i64 sl, AV.int IntKind.i64 pk, AV.int IntKind.i64 pv,
      AV.row nl3 [K.int IntKind.i64, K.int IntKind.i64] ec],
  AObj.box
    [AV.int IntKind.i64 z0, AV.int IntKind.i64 z1, AV.int IntKind.i64 z2, AV.int IntKind.i64 z3, AV.int IntKind.i64 z4,
      AV.nils, AV.int IntKind.i64 z5, AV.int IntKind.i64 z6, AV.int IntKind.i64 z7, AV.int IntKind.i64 z8, AV.nils,
      AV.nils, AV.int IntKind.i64 z9, AV.int IntKind.i64 z10, AV.int IntKind.i64 z11, AV.nils, AV.nils, AV.nils],
  AObj.box
    [AV.int IntKind.i64 n, AV.int IntKind.i64 pi, AV.int IntKind.i64 e, AV.int IntKind.i64 g, AV.int IntKind.i64 fi,
      AV.row nl [K.int IntKind.i64] ps, AV.int IntKind.i64 fk, AV.int IntKind.i64 fa, AV.int IntKind.i64 ff,
      AV.int IntKind.i64 ft, AV.row nl1 [K.int IntKind.i64, K.int IntKind.i64, K.str] acts,
      AV.row nl2 [K.int IntKind.i64] ds, AV.int IntKind.i64 ro, AV.int IntKind.i64 sl', AV.int IntKind.i64 dir,
      AV.sl (3 : Nat) (0 : Nat) (1 : Nat), AV.nils, AV.nils],
  AObj.arr (2 : Nat) (9 : Nat) [K.str] [[AV.str z112]]]))))))))))))))))))
 (Q (Ex.exit (0 : Nat)) ([AV.row nl4 [K.int IntKind.i64] ns, AV.bool true, AV.ptr (0 : Nat) (0 : Nat), AV.ptr (1 : Nat) (0 : Nat)]) ([AObj.box
    [AV.int IntKind.i64 z0, AV.int IntKind.i64 z1, AV.int IntKind.i64 z2, AV.int IntKind.i64 z3, AV.int IntKind.i64 z4,
      AV.nils, AV.int IntKind.i64 z5, AV.int IntKind.i64 z6, AV.int IntKind.i64 z7, AV.int IntKind.i64 z8, AV.nils,
      AV.nils, AV.int IntKind.i64 z9, AV.int IntKind.i64 z10, AV.int IntKind.i64 z11, AV.nils, AV.nils, AV.nils],
  AObj.box
    [AV.int IntKind.i64 n, AV.int IntKind.i64 pi, AV.int IntKind.i64 e, AV.int IntKind.i64 g, AV.int IntKind.i64 fi,
      AV.row nl [K.int IntKind.i64] ps, AV.int IntKind.i64 fk, AV.int IntKind.i64 fa, AV.int IntKind.i64 ff,
      AV.int IntKind.i64 ft, AV.row nl1 [K.int IntKind.i64, K.int IntKind.i64, K.str] acts,
      AV.row nl2 [K.int IntKind.i64] ds, AV.int IntKind.i64 ro, AV.int IntKind.i64 sl', AV.int IntKind.i64 dir, AV.nils,
      AV.nils, AV.nils]]))) := by kernel_rfl
theorem nfMkA2 (n pi e g fi fk fa ff ft ro sl' dir z0 z1 z2 z3 z4 z5 z6 z7 z8 z9 z10 z11 i k r sl pk pv : Int) (nl nl1 nl2 nl4 : Bool) (ps acts ds ns : List (List AV)) (nl3 nlo : Bool) (ec os rs : List (List AV)) (m : Nat) (Q : Ex → List AV → List AObj → Prop) : lpBody Tryz.prog H0 Y2o 6 6 9 11 [.row nl4 [.int .i64] ns, .bool true, .ptr 0 0, .ptr 1 0, .ptr 2 0, .row nlo [.int .i64] os, .int .i64 i] [.box [.int .i64 k, .int .i64 r, .int .i64 sl, .int .i64 pk, .int .i64 pv, .row nl3 [.int .i64, .int .i64] ec], .box [.int .i64 z0, .int .i64 z1, .int .i64 z2, .int .i64 z3, .int .i64 z4, .nils, .int .i64 z5, .int .i64 z6, .int .i64 z7, .int .i64 z8, .nils, .nils, .int .i64 z9, .int .i64 z10, .int .i64 z11, .nils, .nils, .nils], .box [.int .i64 n, .int .i64 pi, .int .i64 e, .int .i64 g, .int .i64 fi, .row nl [.int .i64] ps, .int .i64 fk, .int .i64 fa, .int .i64 ff, .int .i64 ft, .row nl1 [.int .i64, .int .i64, .str] acts, .row nl2 [.int .i64] ds, .int .i64 ro, .int .i64 sl', .int .i64 dir, .sl 3 0 m, .nils, .nils], .arr 2 9 [.str] rs] Q = (
br (decide (i < (↑os.length : Int)))
 (((Hyp ((6 : Int) ≤ n ∧ n ≤ (12 : Int) ∧ ps.length ≤ (3 : Nat))) ∧
 ((∀ (k'102 : Int),
 (∀ (r'103 : Int),
 (∀ (sl'104 : Int),
 (∀ (pk'105 : Int),
 (∀ (pv'106 : Int),
 (∀ (nl'107 : Bool),
 (∀ (rows108 : List (List AV)),
 ((rows108.length ≤ (15 : Nat)) →
 br (decide (i > (0 : Int)))
  (br (decide ((↑ns.length : Int) > (0 : Int)))
   (chk ((0 : Int) ≤ (0 : Int) ∧ (0 : Int) < (↑ns.length : Int)) (br (s_rem ((ns.getD (0 : Nat) []).getD (0 : Nat) AV.gone).toI (3 : Int) == (0 : Int))
    (chk ((0 : Int) ≤ (0 : Int) ∧ (0 : Int) < (↑ns.length : Int)) ((∀ (k115 : Int),
    (∀ (v116 : Int),
    ((Hyp (rows108.length ≤ (30 : Nat))) ∧
    ((∀ (z118 : ByteArray),
    ((s_clean z118 = z118 ∧ (0 : Nat) < z118.size ∧ z118.size ≤ (1000 : Nat)) →
    br (decide ((↑ns.length : Int) > (1 : Int)))
     (chk ((0 : Int) ≤ (1 : Int) ∧ (1 : Int) < (↑ns.length : Int)) (br (s_rem ((ns.getD (1 : Nat) []).getD (0 : Nat) AV.gone).toI (8 : Int) == (0 : Int))
      (chk (m = rs.length) (chk ((rs.length + (1 : Nat)) * (16 : Nat) ≤ (140737488355328 : Nat)) (chk (rs.length + (1 : Nat) ≤ (9223372036854775807 : Nat)) (Q (Ex.nrm) ([AV.row nl4 [K.int IntKind.i64] ns, AV.bool true, AV.ptr (0 : Nat) (0 : Nat), AV.ptr (1 : Nat) (0 : Nat),
  AV.ptr (2 : Nat) (0 : Nat), AV.row nlo [K.int IntKind.i64] os, AV.int IntKind.i64 (IntKind.i64.wrap (i + (1 : Int)))]) ([AObj.box
    [AV.int IntKind.i64 k, AV.int IntKind.i64 r, AV.int IntKind.i64 sl, AV.int IntKind.i64 pk, AV.int IntKind.i64 pv,
      AV.row nl3 [K.int IntKind.i64, K.int IntKind.i64] ec],
  AObj.box
    [AV.int IntKind.i64 z0, AV.int IntKind.i64 z1, AV.int IntKind.i64 z2, AV.int IntKind.i64 z3, AV.int IntKind.i64 z4,
      AV.nils, AV.int IntKind.i64 z5, AV.int IntKind.i64 z6, AV.int IntKind.i64 z7, AV.int IntKind.i64 z8, AV.nils,
      AV.nils, AV.int IntKind.i64 z9, AV.int IntKind.i64 z10, AV.int IntKind.i64 z11, AV.nils, AV.nils, AV.nils],
  AObj.box
    [AV.int IntKind.i64 n, AV.int IntKind.i64 pi, AV.int IntKind.i64 e, AV.int IntKind.i64 g, AV.int IntKind.i64 fi,
      AV.row nl [K.int IntKind.i64] ps, AV.int IntKind.i64 fk, AV.int IntKind.i64 fa, AV.int IntKind.i64 ff,
      AV.int IntKind.i64 ft, AV.row nl1 [K.int IntKind.i64, K.int IntKind.i64, K.str] acts,
      AV.row nl2 [K.int IntKind.i64] ds, AV.int IntKind.i64 ro, AV.int IntKind.i64 sl', AV.int IntKind.i64 dir,
      AV.sl (3 : Nat) (0 : Nat) (rs.length + (1 : Nat)), AV.nils, AV.nils],
  AObj.arr (2 : Nat) (9 : Nat) [K.str] (rs ++ [[AV.str (ByteArray.mk #[])]])])))))
      (chk (m = rs.length) (chk ((rs.length + (1 : Nat)) * (16 : Nat) ≤ (140737488355328 : Nat)) (chk (rs.length + (1 : Nat) ≤ (9223372036854775807 : Nat)) (Q (Ex.nrm) ([AV.row nl4 [K.int IntKind.i64] ns, AV.bool true, AV.ptr (0 : Nat) (0 : Nat), AV.ptr (1 : Nat) (0 : Nat),
  AV.ptr (2 : Nat) (0 : Nat), AV.row nlo [K.int IntKind.i64] os, AV.int IntKind.i64 (IntKind.i64.wrap (i + (1 : Int)))]) ([AObj.box
    [AV.int IntKind.i64 k, AV.int IntKind.i64 r, AV.int IntKind.i64 sl, AV.int IntKind.i64 pk, AV.int IntKind.i64 pv,
      AV.row nl3 [K.int IntKind.i64, K.int IntKind.i64] ec],
  AObj.box
    [AV.int IntKind.i64 z0, AV.int IntKind.i64 z1, AV.int IntKind.i64 z2, AV.int IntKind.i64 z3, AV.int IntKind.i64 z4,
      AV.nils, AV.int IntKind.i64 z5, AV.int IntKind.i64 z6, AV.int IntKind.i64 z7, AV.int IntKind.i64 z8, AV.nils,
      AV.nils, AV.int IntKind.i64 z9, AV.int IntKind.i64 z10, AV.int IntKind.i64 z11, AV.nils, AV.nils, AV.nils],
  AObj.box
    [AV.int IntKind.i64 n, AV.int IntKind.i64 pi, AV.int IntKind.i64 e, AV.int IntKind.i64 g, AV.int IntKind.i64 fi,
      AV.row nl [K.int IntKind.i64] ps, AV.int IntKind.i64 fk, AV.int IntKind.i64 fa, AV.int IntKind.i64 ff,
      AV.int IntKind.i64 ft, AV.row nl1 [K.int IntKind.i64, K.int IntKind.i64, K.str] acts,
      AV.row nl2 [K.int IntKind.i64] ds, AV.int IntKind.i64 ro, AV.int IntKind.i64 sl', AV.int IntKind.i64 dir,
      AV.sl (3 : Nat) (0 : Nat) (rs.length + (1 : Nat)), AV.nils, AV.nils],
  AObj.arr (2 : Nat) (9 : Nat) [K.str] (rs ++ [[AV.str z118]])])))))))
     (chk (m = rs.length) (chk ((rs.length + (1 : Nat)) * (16 : Nat) ≤ (140737488355328 : Nat)) (chk (rs.length + (1 : Nat) ≤ (9223372036854775807 : Nat)) (Q (Ex.nrm) ([AV.row nl4 [K.int IntKind.i64] ns, AV.bool true, AV.ptr (0 : Nat) (0 : Nat), AV.ptr (1 : Nat) (0 : Nat),
  AV.ptr (2 : Nat) (0 : Nat), AV.row nlo [K.int IntKind.i64] os, AV.int IntKind.i64 (IntKind.i64.wrap (i + (1 : Int)))]) ([AObj.box
    [AV.int IntKind.i64 k, AV.int IntKind.i64 r, AV.int IntKind.i64 sl, AV.int IntKind.i64 pk, AV.int IntKind.i64 pv,
      AV.row nl3 [K.int IntKind.i64, K.int IntKind.i64] ec],
  AObj.box
    [AV.int IntKind.i64 z0, AV.int IntKind.i64 z1, AV.int IntKind.i64 z2, AV.int IntKind.i64 z3, AV.int IntKind.i64 z4,
      AV.nils, AV.int IntKind.i64 z5, AV.int IntKind.i64 z6, AV.int IntKind.i64 z7, AV.int IntKind.i64 z8, AV.nils,
      AV.nils, AV.int IntKind.i64 z9, AV.int IntKind.i64 z10, AV.int IntKind.i64 z11, AV.nils, AV.nils, AV.nils],
  AObj.box
    [AV.int IntKind.i64 n, AV.int IntKind.i64 pi, AV.int IntKind.i64 e, AV.int IntKind.i64 g, AV.int IntKind.i64 fi,
      AV.row nl [K.int IntKind.i64] ps, AV.int IntKind.i64 fk, AV.int IntKind.i64 fa, AV.int IntKind.i64 ff,
      AV.int IntKind.i64 ft, AV.row nl1 [K.int IntKind.i64, K.int IntKind.i64, K.str] acts,
      AV.row nl2 [K.int IntKind.i64] ds, AV.int IntKind.i64 ro, AV.int IntKind.i64 sl', AV.int IntKind.i64 dir,
      AV.sl (3 : Nat) (0 : Nat) (rs.length + (1 : Nat)), AV.nils, AV.nils],
  AObj.arr (2 : Nat) (9 : Nat) [K.str] (rs ++ [[AV.str z118]])])))))))))))))
    (((Hyp (rows108.length ≤ (30 : Nat))) ∧
    ((∀ (z115 : ByteArray),
    ((s_clean z115 = z115 ∧ (0 : Nat) < z115.size ∧ z115.size ≤ (1000 : Nat)) →
    br (decide ((↑ns.length : Int) > (1 : Int)))
     (chk ((0 : Int) ≤ (1 : Int) ∧ (1 : Int) < (↑ns.length : Int)) (br (s_rem ((ns.getD (1 : Nat) []).getD (0 : Nat) AV.gone).toI (8 : Int) == (0 : Int))
      (chk (m = rs.length) (chk ((rs.length + (1 : Nat)) * (16 : Nat) ≤ (140737488355328 : Nat)) (chk (rs.length + (1 : Nat) ≤ (9223372036854775807 : Nat)) (Q (Ex.nrm) ([AV.row nl4 [K.int IntKind.i64] ns, AV.bool true, AV.ptr (0 : Nat) (0 : Nat), AV.ptr (1 : Nat) (0 : Nat),
  AV.ptr (2 : Nat) (0 : Nat), AV.row nlo [K.int IntKind.i64] os, AV.int IntKind.i64 (IntKind.i64.wrap (i + (1 : Int)))]) ([AObj.box
    [AV.int IntKind.i64 k, AV.int IntKind.i64 r, AV.int IntKind.i64 sl, AV.int IntKind.i64 pk, AV.int IntKind.i64 pv,
      AV.row nl3 [K.int IntKind.i64, K.int IntKind.i64] ec],
  AObj.box
    [AV.int IntKind.i64 z0, AV.int IntKind.i64 z1, AV.int IntKind.i64 z2, AV.int IntKind.i64 z3, AV.int IntKind.i64 z4,
      AV.nils, AV.int IntKind.i64 z5, AV.int IntKind.i64 z6, AV.int IntKind.i64 z7, AV.int IntKind.i64 z8, AV.nils,
      AV.nils, AV.int IntKind.i64 z9, AV.int IntKind.i64 z10, AV.int IntKind.i64 z11, AV.nils, AV.nils, AV.nils],
  AObj.box
    [AV.int IntKind.i64 n, AV.int IntKind.i64 pi, AV.int IntKind.i64 e, AV.int IntKind.i64 g, AV.int IntKind.i64 fi,
      AV.row nl [K.int IntKind.i64] ps, AV.int IntKind.i64 fk, AV.int IntKind.i64 fa, AV.int IntKind.i64 ff,
      AV.int IntKind.i64 ft, AV.row nl1 [K.int IntKind.i64, K.int IntKind.i64, K.str] acts,
      AV.row nl2 [K.int IntKind.i64] ds, AV.int IntKind.i64 ro, AV.int IntKind.i64 sl', AV.int IntKind.i64 dir,
      AV.sl (3 : Nat) (0 : Nat) (rs.length + (1 : Nat)), AV.nils, AV.nils],
  AObj.arr (2 : Nat) (9 : Nat) [K.str] (rs ++ [[AV.str (ByteArray.mk #[])]])])))))
      (chk (m = rs.length) (chk ((rs.length + (1 : Nat)) * (16 : Nat) ≤ (140737488355328 : Nat)) (chk (rs.length + (1 : Nat) ≤ (9223372036854775807 : Nat)) (Q (Ex.nrm) ([AV.row nl4 [K.int IntKind.i64] ns, AV.bool true, AV.ptr (0 : Nat) (0 : Nat), AV.ptr (1 : Nat) (0 : Nat),
  AV.ptr (2 : Nat) (0 : Nat), AV.row nlo [K.int IntKind.i64] os, AV.int IntKind.i64 (IntKind.i64.wrap (i + (1 : Int)))]) ([AObj.box
    [AV.int IntKind.i64 k, AV.int IntKind.i64 r, AV.int IntKind.i64 sl, AV.int IntKind.i64 pk, AV.int IntKind.i64 pv,
      AV.row nl3 [K.int IntKind.i64, K.int IntKind.i64] ec],
  AObj.box
    [AV.int IntKind.i64 z0, AV.int IntKind.i64 z1, AV.int IntKind.i64 z2, AV.int IntKind.i64 z3, AV.int IntKind.i64 z4,
      AV.nils, AV.int IntKind.i64 z5, AV.int IntKind.i64 z6, AV.int IntKind.i64 z7, AV.int IntKind.i64 z8, AV.nils,
      AV.nils, AV.int IntKind.i64 z9, AV.int IntKind.i64 z10, AV.int IntKind.i64 z11, AV.nils, AV.nils, AV.nils],
  AObj.box
    [AV.int IntKind.i64 n, AV.int IntKind.i64 pi, AV.int IntKind.i64 e, AV.int IntKind.i64 g, AV.int IntKind.i64 fi,
      AV.row nl [K.int IntKind.i64] ps, AV.int IntKind.i64 fk, AV.int IntKind.i64 fa, AV.int IntKind.i64 ff,
      AV.int IntKind.i64 ft, AV.row nl1 [K.int IntKind.i64, K.int IntKind.i64, K.str] acts,
      AV.row nl2 [K.int IntKind.i64] ds, AV.int IntKind.i64 ro, AV.int IntKind.i64 sl', AV.int IntKind.i64 dir,
      AV.sl (3 : Nat) (0 : Nat) (rs.length + (1 : Nat)), AV.nils, AV.nils],
  AObj.arr (2 : Nat) (9 : Nat) [K.str] (rs ++ [[AV.str z115]])])))))))
     (chk (m = rs.length) (chk ((rs.length + (1 : Nat)) * (16 : Nat) ≤ (140737488355328 : Nat)) (chk (rs.length + (1 : Nat) ≤ (9223372036854775807 : Nat)) (Q (Ex.nrm) ([AV.row nl4 [K.int IntKind.i64] ns, AV.bool true, AV.ptr (0 : Nat) (0 : Nat), AV.ptr (1 : Nat) (0 : Nat),
  AV.ptr (2 : Nat) (0 : Nat), AV.row nlo [K.int IntKind.i64] os, AV.int IntKind.i64 (IntKind.i64.wrap (i + (1 : Int)))]) ([AObj.box
    [AV.int IntKind.i64 k, AV.int IntKind.i64 r, AV.int IntKind.i64 sl, AV.int IntKind.i64 pk, AV.int IntKind.i64 pv,
      AV.row nl3 [K.int IntKind.i64, K.int IntKind.i64] ec],
  AObj.box
    [AV.int IntKind.i64 z0, AV.int IntKind.i64 z1, AV.int IntKind.i64 z2, AV.int IntKind.i64 z3, AV.int IntKind.i64 z4,
      AV.nils, AV.int IntKind.i64 z5, AV.int IntKind.i64 z6, AV.int IntKind.i64 z7, AV.int IntKind.i64 z8, AV.nils,
      AV.nils, AV.int IntKind.i64 z9, AV.int IntKind.i64 z10, AV.int IntKind.i64 z11, AV.nils, AV.nils, AV.nils],
  AObj.box
    [AV.int IntKind.i64 n, AV.int IntKind.i64 pi, AV.int IntKind.i64 e, AV.int IntKind.i64 g, AV.int IntKind.i64 fi,
      AV.row nl [K.int IntKind.i64] ps, AV.int IntKind.i64 fk, AV.int IntKind.i64 fa, AV.int IntKind.i64 ff,
      AV.int IntKind.i64 ft, AV.row nl1 [K.int IntKind.i64, K.int IntKind.i64, K.str] acts,
      AV.row nl2 [K.int IntKind.i64] ds, AV.int IntKind.i64 ro, AV.int IntKind.i64 sl', AV.int IntKind.i64 dir,
      AV.sl (3 : Nat) (0 : Nat) (rs.length + (1 : Nat)), AV.nils, AV.nils],
  AObj.arr (2 : Nat) (9 : Nat) [K.str] (rs ++ [[AV.str z115]])]))))))))))))
   (((Hyp (rows108.length ≤ (30 : Nat))) ∧
   ((∀ (z113 : ByteArray),
   ((s_clean z113 = z113 ∧ (0 : Nat) < z113.size ∧ z113.size ≤ (1000 : Nat)) →
   br (decide ((↑ns.length : Int) > (1 : Int)))
    (chk ((0 : Int) ≤ (1 : Int) ∧ (1 : Int) < (↑ns.length : Int)) (br (s_rem ((ns.getD (1 : Nat) []).getD (0 : Nat) AV.gone).toI (8 : Int) == (0 : Int))
     (chk (m = rs.length) (chk ((rs.length + (1 : Nat)) * (16 : Nat) ≤ (140737488355328 : Nat)) (chk (rs.length + (1 : Nat) ≤ (9223372036854775807 : Nat)) (Q (Ex.nrm) ([AV.row nl4 [K.int IntKind.i64] ns, AV.bool true, AV.ptr (0 : Nat) (0 : Nat), AV.ptr (1 : Nat) (0 : Nat),
  AV.ptr (2 : Nat) (0 : Nat), AV.row nlo [K.int IntKind.i64] os, AV.int IntKind.i64 (IntKind.i64.wrap (i + (1 : Int)))]) ([AObj.box
    [AV.int IntKind.i64 k, AV.int IntKind.i64 r, AV.int IntKind.i64 sl, AV.int IntKind.i64 pk, AV.int IntKind.i64 pv,
      AV.row nl3 [K.int IntKind.i64, K.int IntKind.i64] ec],
  AObj.box
    [AV.int IntKind.i64 z0, AV.int IntKind.i64 z1, AV.int IntKind.i64 z2, AV.int IntKind.i64 z3, AV.int IntKind.i64 z4,
      AV.nils, AV.int IntKind.i64 z5, AV.int IntKind.i64 z6, AV.int IntKind.i64 z7, AV.int IntKind.i64 z8, AV.nils,
      AV.nils, AV.int IntKind.i64 z9, AV.int IntKind.i64 z10, AV.int IntKind.i64 z11, AV.nils, AV.nils, AV.nils],
  AObj.box
    [AV.int IntKind.i64 n, AV.int IntKind.i64 pi, AV.int IntKind.i64 e, AV.int IntKind.i64 g, AV.int IntKind.i64 fi,
      AV.row nl [K.int IntKind.i64] ps, AV.int IntKind.i64 fk, AV.int IntKind.i64 fa, AV.int IntKind.i64 ff,
      AV.int IntKind.i64 ft, AV.row nl1 [K.int IntKind.i64, K.int IntKind.i64, K.str] acts,
      AV.row nl2 [K.int IntKind.i64] ds, AV.int IntKind.i64 ro, AV.int IntKind.i64 sl', AV.int IntKind.i64 dir,
      AV.sl (3 : Nat) (0 : Nat) (rs.length + (1 : Nat)), AV.nils, AV.nils],
  AObj.arr (2 : Nat) (9 : Nat) [K.str] (rs ++ [[AV.str (ByteArray.mk #[])]])])))))
     (chk (m = rs.length) (chk ((rs.length + (1 : Nat)) * (16 : Nat) ≤ (140737488355328 : Nat)) (chk (rs.length + (1 : Nat) ≤ (9223372036854775807 : Nat)) (Q (Ex.nrm) ([AV.row nl4 [K.int IntKind.i64] ns, AV.bool true, AV.ptr (0 : Nat) (0 : Nat), AV.ptr (1 : Nat) (0 : Nat),
  AV.ptr (2 : Nat) (0 : Nat), AV.row nlo [K.int IntKind.i64] os, AV.int IntKind.i64 (IntKind.i64.wrap (i + (1 : Int)))]) ([AObj.box
    [AV.int IntKind.i64 k, AV.int IntKind.i64 r, AV.int IntKind.i64 sl, AV.int IntKind.i64 pk, AV.int IntKind.i64 pv,
      AV.row nl3 [K.int IntKind.i64, K.int IntKind.i64] ec],
  AObj.box
    [AV.int IntKind.i64 z0, AV.int IntKind.i64 z1, AV.int IntKind.i64 z2, AV.int IntKind.i64 z3, AV.int IntKind.i64 z4,
      AV.nils, AV.int IntKind.i64 z5, AV.int IntKind.i64 z6, AV.int IntKind.i64 z7, AV.int IntKind.i64 z8, AV.nils,
      AV.nils, AV.int IntKind.i64 z9, AV.int IntKind.i64 z10, AV.int IntKind.i64 z11, AV.nils, AV.nils, AV.nils],
  AObj.box
    [AV.int IntKind.i64 n, AV.int IntKind.i64 pi, AV.int IntKind.i64 e, AV.int IntKind.i64 g, AV.int IntKind.i64 fi,
      AV.row nl [K.int IntKind.i64] ps, AV.int IntKind.i64 fk, AV.int IntKind.i64 fa, AV.int IntKind.i64 ff,
      AV.int IntKind.i64 ft, AV.row nl1 [K.int IntKind.i64, K.int IntKind.i64, K.str] acts,
      AV.row nl2 [K.int IntKind.i64] ds, AV.int IntKind.i64 ro, AV.int IntKind.i64 sl', AV.int IntKind.i64 dir,
      AV.sl (3 : Nat) (0 : Nat) (rs.length + (1 : Nat)), AV.nils, AV.nils],
  AObj.arr (2 : Nat) (9 : Nat) [K.str] (rs ++ [[AV.str z113]])])))))))
    (chk (m = rs.length) (chk ((rs.length + (1 : Nat)) * (16 : Nat) ≤ (140737488355328 : Nat)) (chk (rs.length + (1 : Nat) ≤ (9223372036854775807 : Nat)) (Q (Ex.nrm) ([AV.row nl4 [K.int IntKind.i64] ns, AV.bool true, AV.ptr (0 : Nat) (0 : Nat), AV.ptr (1 : Nat) (0 : Nat),
  AV.ptr (2 : Nat) (0 : Nat), AV.row nlo [K.int IntKind.i64] os, AV.int IntKind.i64 (IntKind.i64.wrap (i + (1 : Int)))]) ([AObj.box
    [AV.int IntKind.i64 k, AV.int IntKind.i64 r, AV.int IntKind.i64 sl, AV.int IntKind.i64 pk, AV.int IntKind.i64 pv,
      AV.row nl3 [K.int IntKind.i64, K.int IntKind.i64] ec],
  AObj.box
    [AV.int IntKind.i64 z0, AV.int IntKind.i64 z1, AV.int IntKind.i64 z2, AV.int IntKind.i64 z3, AV.int IntKind.i64 z4,
      AV.nils, AV.int IntKind.i64 z5, AV.int IntKind.i64 z6, AV.int IntKind.i64 z7, AV.int IntKind.i64 z8, AV.nils,
      AV.nils, AV.int IntKind.i64 z9, AV.int IntKind.i64 z10, AV.int IntKind.i64 z11, AV.nils, AV.nils, AV.nils],
  AObj.box
    [AV.int IntKind.i64 n, AV.int IntKind.i64 pi, AV.int IntKind.i64 e, AV.int IntKind.i64 g, AV.int IntKind.i64 fi,
      AV.row nl [K.int IntKind.i64] ps, AV.int IntKind.i64 fk, AV.int IntKind.i64 fa, AV.int IntKind.i64 ff,
      AV.int IntKind.i64 ft, AV.row nl1 [K.int IntKind.i64, K.int IntKind.i64, K.str] acts,
      AV.row nl2 [K.int IntKind.i64] ds, AV.int IntKind.i64 ro, AV.int IntKind.i64 sl', AV.int IntKind.i64 dir,
      AV.sl (3 : Nat) (0 : Nat) (rs.length + (1 : Nat)), AV.nils, AV.nils],
  AObj.arr (2 : Nat) (9 : Nat) [K.str] (rs ++ [[AV.str z113]])])))))))))))
  (((Hyp (rows108.length ≤ (30 : Nat))) ∧
  ((∀ (z112 : ByteArray),
  ((s_clean z112 = z112 ∧ (0 : Nat) < z112.size ∧ z112.size ≤ (1000 : Nat)) →
  br (decide ((↑ns.length : Int) > (1 : Int)))
   (chk ((0 : Int) ≤ (1 : Int) ∧ (1 : Int) < (↑ns.length : Int)) (br (s_rem ((ns.getD (1 : Nat) []).getD (0 : Nat) AV.gone).toI (8 : Int) == (0 : Int))
    (chk (m = rs.length) (chk ((rs.length + (1 : Nat)) * (16 : Nat) ≤ (140737488355328 : Nat)) (chk (rs.length + (1 : Nat) ≤ (9223372036854775807 : Nat)) (Q (Ex.nrm) ([AV.row nl4 [K.int IntKind.i64] ns, AV.bool true, AV.ptr (0 : Nat) (0 : Nat), AV.ptr (1 : Nat) (0 : Nat),
  AV.ptr (2 : Nat) (0 : Nat), AV.row nlo [K.int IntKind.i64] os, AV.int IntKind.i64 (IntKind.i64.wrap (i + (1 : Int)))]) ([AObj.box
    [AV.int IntKind.i64 k, AV.int IntKind.i64 r, AV.int IntKind.i64 sl, AV.int IntKind.i64 pk, AV.int IntKind.i64 pv,
      AV.row nl3 [K.int IntKind.i64, K.int IntKind.i64] ec],
  AObj.box
    [AV.int IntKind.i64 z0, AV.int IntKind.i64 z1, AV.int IntKind.i64 z2, AV.int IntKind.i64 z3, AV.int IntKind.i64 z4,
      AV.nils, AV.int IntKind.i64 z5, AV.int IntKind.i64 z6, AV.int IntKind.i64 z7, AV.int IntKind.i64 z8, AV.nils,
      AV.nils, AV.int IntKind.i64 z9, AV.int IntKind.i64 z10, AV.int IntKind.i64 z11, AV.nils, AV.nils, AV.nils],
  AObj.box
    [AV.int IntKind.i64 n, AV.int IntKind.i64 pi, AV.int IntKind.i64 e, AV.int IntKind.i64 g, AV.int IntKind.i64 fi,
      AV.row nl [K.int IntKind.i64] ps, AV.int IntKind.i64 fk, AV.int IntKind.i64 fa, AV.int IntKind.i64 ff,
      AV.int IntKind.i64 ft, AV.row nl1 [K.int IntKind.i64, K.int IntKind.i64, K.str] acts,
      AV.row nl2 [K.int IntKind.i64] ds, AV.int IntKind.i64 ro, AV.int IntKind.i64 sl', AV.int IntKind.i64 dir,
      AV.sl (3 : Nat) (0 : Nat) (rs.length + (1 : Nat)), AV.nils, AV.nils],
  AObj.arr (2 : Nat) (9 : Nat) [K.str] (rs ++ [[AV.str (ByteArray.mk #[])]])])))))
    (chk (m = rs.length) (chk ((rs.length + (1 : Nat)) * (16 : Nat) ≤ (140737488355328 : Nat)) (chk (rs.length + (1 : Nat) ≤ (9223372036854775807 : Nat)) (Q (Ex.nrm) ([AV.row nl4 [K.int IntKind.i64] ns, AV.bool true, AV.ptr (0 : Nat) (0 : Nat), AV.ptr (1 : Nat) (0 : Nat),
  AV.ptr (2 : Nat) (0 : Nat), AV.row nlo [K.int IntKind.i64] os, AV.int IntKind.i64 (IntKind.i64.wrap (i + (1 : Int)))]) ([AObj.box
    [AV.int IntKind.i64 k, AV.int IntKind.i64 r, AV.int IntKind.i64 sl, AV.int IntKind.i64 pk, AV.int IntKind.i64 pv,
      AV.row nl3 [K.int IntKind.i64, K.int IntKind.i64] ec],
  AObj.box
    [AV.int IntKind.i64 z0, AV.int IntKind.i64 z1, AV.int IntKind.i64 z2, AV.int IntKind.i64 z3, AV.int IntKind.i64 z4,
      AV.nils, AV.int IntKind.i64 z5, AV.int IntKind.i64 z6, AV.int IntKind.i64 z7, AV.int IntKind.i64 z8, AV.nils,
      AV.nils, AV.int IntKind.i64 z9, AV.int IntKind.i64 z10, AV.int IntKind.i64 z11, AV.nils, AV.nils, AV.nils],
  AObj.box
    [AV.int IntKind.i64 n, AV.int IntKind.i64 pi, AV.int IntKind.i64 e, AV.int IntKind.i64 g, AV.int IntKind.i64 fi,
      AV.row nl [K.int IntKind.i64] ps, AV.int IntKind.i64 fk, AV.int IntKind.i64 fa, AV.int IntKind.i64 ff,
      AV.int IntKind.i64 ft, AV.row nl1 [K.int IntKind.i64, K.int IntKind.i64, K.str] acts,
      AV.row nl2 [K.int IntKind.i64] ds, AV.int IntKind.i64 ro, AV.int IntKind.i64 sl', AV.int IntKind.i64 dir,
      AV.sl (3 : Nat) (0 : Nat) (rs.length + (1 : Nat)), AV.nils, AV.nils],
  AObj.arr (2 : Nat) (9 : Nat) [K.str] (rs ++ [[AV.str z112]])])))))))
   (chk (m = rs.length) (chk ((rs.length + (1 : Nat)) * (16 : Nat) ≤ (140737488355328 : Nat)) (chk (rs.length + (1 : Nat) ≤ (9223372036854775807 : Nat)) (Q (Ex.nrm) ([AV.row nl4 [K.int IntKind.i64] ns, AV.bool true, AV.ptr (0 : Nat) (0 : Nat), AV.ptr (1 : Nat) (0 : Nat),
  AV.ptr (2 : Nat) (0 : Nat), AV.row nlo [K.int IntKind.i64] os, AV.int IntKind.i64 (IntKind.i64.wrap (i + (1 : Int)))]) ([AObj.box
    [AV.int IntKind.i64 k, AV.int IntKind.i64 r, AV.int IntKind.i64 sl, AV.int IntKind.i64 pk, AV.int IntKind.i64 pv,
      AV.row nl3 [K.int IntKind.i64, K.int IntKind.i64] ec],
  AObj.box
    [AV.int IntKind.i64 z0, AV.int IntKind.i64 z1, AV.int IntKind.i64 z2, AV.int IntKind.i64 z3, AV.int IntKind.i64 z4,
      AV.nils, AV.int IntKind.i64 z5, AV.int IntKind.i64 z6, AV.int IntKind.i64 z7, AV.int IntKind.i64 z8, AV.nils,
      AV.nils, AV.int IntKind.i64 z9, AV.int IntKind.i64 z10, AV.int IntKind.i64 z11, AV.nils, AV.nils, AV.nils],
  AObj.box
    [AV.int IntKind.i64 n, AV.int IntKind.i64 pi, AV.int IntKind.i64 e, AV.int IntKind.i64 g, AV.int IntKind.i64 fi,
      AV.row nl [K.int IntKind.i64] ps, AV.int IntKind.i64 fk, AV.int IntKind.i64 fa, AV.int IntKind.i64 ff,
      AV.int IntKind.i64 ft, AV.row nl1 [K.int IntKind.i64, K.int IntKind.i64, K.str] acts,
      AV.row nl2 [K.int IntKind.i64] ds, AV.int IntKind.i64 ro, AV.int IntKind.i64 sl', AV.int IntKind.i64 dir,
      AV.sl (3 : Nat) (0 : Nat) (rs.length + (1 : Nat)), AV.nils, AV.nils],
  AObj.arr (2 : Nat) (9 : Nat) [K.str] (rs ++ [[AV.str z112]])])))))))))))))))))))))
 (Q (Ex.exit (0 : Nat)) ([AV.row nl4 [K.int IntKind.i64] ns, AV.bool true, AV.ptr (0 : Nat) (0 : Nat), AV.ptr (1 : Nat) (0 : Nat)]) ([AObj.box
    [AV.int IntKind.i64 z0, AV.int IntKind.i64 z1, AV.int IntKind.i64 z2, AV.int IntKind.i64 z3, AV.int IntKind.i64 z4,
      AV.nils, AV.int IntKind.i64 z5, AV.int IntKind.i64 z6, AV.int IntKind.i64 z7, AV.int IntKind.i64 z8, AV.nils,
      AV.nils, AV.int IntKind.i64 z9, AV.int IntKind.i64 z10, AV.int IntKind.i64 z11, AV.nils, AV.nils, AV.nils],
  AObj.box
    [AV.int IntKind.i64 n, AV.int IntKind.i64 pi, AV.int IntKind.i64 e, AV.int IntKind.i64 g, AV.int IntKind.i64 fi,
      AV.row nl [K.int IntKind.i64] ps, AV.int IntKind.i64 fk, AV.int IntKind.i64 fa, AV.int IntKind.i64 ff,
      AV.int IntKind.i64 ft, AV.row nl1 [K.int IntKind.i64, K.int IntKind.i64, K.str] acts,
      AV.row nl2 [K.int IntKind.i64] ds, AV.int IntKind.i64 ro, AV.int IntKind.i64 sl', AV.int IntKind.i64 dir,
      AV.sl (2 : Nat) (0 : Nat) m, AV.nils, AV.nils],
  AObj.arr (2 : Nat) (9 : Nat) [K.str] rs]))) := by kernel_rfl
theorem nfMkB1 (n pi e g fi fk fa ff ft ro sl' dir z0 z1 z2 z3 z4 z5 z6 z7 z8 z9 z10 z11 i : Int) (nl nl1 nl2 nl4 : Bool) (ps acts ds ns : List (List AV)) (Q : Ex → List AV → List AObj → Prop) : lpBody Tryz.prog H0 Y2o 6 6 9 21 [.row nl4 [.int .i64] ns, .bool true, .ptr 0 0, .ptr 1 0, .int .i64 i] [.box [.int .i64 z0, .int .i64 z1, .int .i64 z2, .int .i64 z3, .int .i64 z4, .nils, .int .i64 z5, .int .i64 z6, .int .i64 z7, .int .i64 z8, .nils, .nils, .int .i64 z9, .int .i64 z10, .int .i64 z11, .nils, .nils, .nils], .box [.int .i64 n, .int .i64 pi, .int .i64 e, .int .i64 g, .int .i64 fi, .row nl [.int .i64] ps, .int .i64 fk, .int .i64 fa, .int .i64 ff, .int .i64 ft, .row nl1 [.int .i64, .int .i64, .str] acts, .row nl2 [.int .i64] ds, .int .i64 ro, .int .i64 sl', .int .i64 dir, .nils, .nils, .nils]] Q = (
br (decide (i < n))
 (br (decide (i < (↑ns.length : Int)))
  (chk ((0 : Int) ≤ i ∧ i < (↑ns.length : Int)) (chk ((0 : Int) < IntKind.i64.wrap (IntKind.i64.wrap ((4 : Int) * pi) + (1 : Int)) ∧
  IntKind.i64.wrap (IntKind.i64.wrap ((4 : Int) * pi) + (1 : Int)) < (9223372036854775808 : Int)) (Q (Ex.nrm) ([AV.row nl4 [K.int IntKind.i64] ns, AV.bool true, AV.ptr (0 : Nat) (0 : Nat), AV.ptr (1 : Nat) (0 : Nat),
  AV.int IntKind.i64 (IntKind.i64.wrap (i + (1 : Int)))]) ([AObj.box
    [AV.int IntKind.i64 z0, AV.int IntKind.i64 z1, AV.int IntKind.i64 z2, AV.int IntKind.i64 z3, AV.int IntKind.i64 z4,
      AV.nils, AV.int IntKind.i64 z5, AV.int IntKind.i64 z6, AV.int IntKind.i64 z7, AV.int IntKind.i64 z8, AV.nils,
      AV.nils, AV.int IntKind.i64 z9, AV.int IntKind.i64 z10, AV.int IntKind.i64 z11, AV.nils, AV.nils, AV.nils],
  AObj.box
    [AV.int IntKind.i64 n, AV.int IntKind.i64 pi, AV.int IntKind.i64 e, AV.int IntKind.i64 g, AV.int IntKind.i64 fi,
      AV.row nl [K.int IntKind.i64] ps, AV.int IntKind.i64 fk, AV.int IntKind.i64 fa, AV.int IntKind.i64 ff,
      AV.int IntKind.i64 ft, AV.row nl1 [K.int IntKind.i64, K.int IntKind.i64, K.str] acts,
      AV.row nl2 [K.int IntKind.i64] ds, AV.int IntKind.i64 ro, AV.int IntKind.i64 sl', AV.int IntKind.i64 dir, AV.nils,
      AV.sl (2 : Nat) (0 : Nat) (1 : Nat), AV.sl (3 : Nat) (0 : Nat) (1 : Nat)],
  AObj.arr (2 : Nat) (3 : Nat) [K.int IntKind.i64] [[AV.int IntKind.i64 (4 : Int)]],
  AObj.arr (2 : Nat) (3 : Nat) [K.int IntKind.i64]
    [[AV.int IntKind.i64
          (IntKind.i64.wrap
            (s_rem ((ns.getD i.toNat []).getD (0 : Nat) AV.gone).toI
                (IntKind.i64.wrap (IntKind.i64.wrap ((4 : Int) * pi) + (1 : Int))) -
              IntKind.i64.wrap ((2 : Int) * pi)))]]]))))
  (Q (Ex.nrm) ([AV.row nl4 [K.int IntKind.i64] ns, AV.bool true, AV.ptr (0 : Nat) (0 : Nat), AV.ptr (1 : Nat) (0 : Nat),
  AV.int IntKind.i64 (IntKind.i64.wrap (i + (1 : Int)))]) ([AObj.box
    [AV.int IntKind.i64 z0, AV.int IntKind.i64 z1, AV.int IntKind.i64 z2, AV.int IntKind.i64 z3, AV.int IntKind.i64 z4,
      AV.nils, AV.int IntKind.i64 z5, AV.int IntKind.i64 z6, AV.int IntKind.i64 z7, AV.int IntKind.i64 z8, AV.nils,
      AV.nils, AV.int IntKind.i64 z9, AV.int IntKind.i64 z10, AV.int IntKind.i64 z11, AV.nils, AV.nils, AV.nils],
  AObj.box
    [AV.int IntKind.i64 n, AV.int IntKind.i64 pi, AV.int IntKind.i64 e, AV.int IntKind.i64 g, AV.int IntKind.i64 fi,
      AV.row nl [K.int IntKind.i64] ps, AV.int IntKind.i64 fk, AV.int IntKind.i64 fa, AV.int IntKind.i64 ff,
      AV.int IntKind.i64 ft, AV.row nl1 [K.int IntKind.i64, K.int IntKind.i64, K.str] acts,
      AV.row nl2 [K.int IntKind.i64] ds, AV.int IntKind.i64 ro, AV.int IntKind.i64 sl', AV.int IntKind.i64 dir, AV.nils,
      AV.sl (2 : Nat) (0 : Nat) (1 : Nat), AV.sl (3 : Nat) (0 : Nat) (1 : Nat)],
  AObj.arr (2 : Nat) (3 : Nat) [K.int IntKind.i64] [[AV.int IntKind.i64 (4 : Int)]],
  AObj.arr (2 : Nat) (3 : Nat) [K.int IntKind.i64] [[AV.int IntKind.i64 (0 : Int)]]])))
 (Q (Ex.exit (2 : Nat)) ([AV.ptr (0 : Nat) (0 : Nat), AV.ptr (1 : Nat) (0 : Nat)]) ([AObj.box
    [AV.int IntKind.i64 z0, AV.int IntKind.i64 z1, AV.int IntKind.i64 z2, AV.int IntKind.i64 z3, AV.int IntKind.i64 z4,
      AV.nils, AV.int IntKind.i64 z5, AV.int IntKind.i64 z6, AV.int IntKind.i64 z7, AV.int IntKind.i64 z8, AV.nils,
      AV.nils, AV.int IntKind.i64 z9, AV.int IntKind.i64 z10, AV.int IntKind.i64 z11, AV.nils, AV.nils, AV.nils],
  AObj.box
    [AV.int IntKind.i64 n, AV.int IntKind.i64 pi, AV.int IntKind.i64 e, AV.int IntKind.i64 g, AV.int IntKind.i64 fi,
      AV.row nl [K.int IntKind.i64] ps, AV.int IntKind.i64 fk, AV.int IntKind.i64 fa, AV.int IntKind.i64 ff,
      AV.int IntKind.i64 ft, AV.row nl1 [K.int IntKind.i64, K.int IntKind.i64, K.str] acts,
      AV.row nl2 [K.int IntKind.i64] ds, AV.int IntKind.i64 ro, AV.int IntKind.i64 sl', AV.int IntKind.i64 dir, AV.nils,
      AV.nils, AV.nils]]))) := by kernel_rfl
theorem nfMkB2 (n pi e g fi fk fa ff ft ro sl' dir z0 z1 z2 z3 z4 z5 z6 z7 z8 z9 z10 z11 i : Int) (nl nl1 nl2 nl4 : Bool) (ps acts ds ns : List (List AV)) (m m2 : Nat) (sts dvs : List (List AV)) (Q : Ex → List AV → List AObj → Prop) : lpBody Tryz.prog H0 Y2o 6 6 9 21 [.row nl4 [.int .i64] ns, .bool true, .ptr 0 0, .ptr 1 0, .int .i64 i] [.box [.int .i64 z0, .int .i64 z1, .int .i64 z2, .int .i64 z3, .int .i64 z4, .nils, .int .i64 z5, .int .i64 z6, .int .i64 z7, .int .i64 z8, .nils, .nils, .int .i64 z9, .int .i64 z10, .int .i64 z11, .nils, .nils, .nils], .box [.int .i64 n, .int .i64 pi, .int .i64 e, .int .i64 g, .int .i64 fi, .row nl [.int .i64] ps, .int .i64 fk, .int .i64 fa, .int .i64 ff, .int .i64 ft, .row nl1 [.int .i64, .int .i64, .str] acts, .row nl2 [.int .i64] ds, .int .i64 ro, .int .i64 sl', .int .i64 dir, .nils, .sl 2 0 m, .sl 3 0 m2], .arr 2 3 [.int .i64] sts, .arr 2 3 [.int .i64] dvs] Q = (
br (decide (i < n))
 (br (decide (i < (↑ns.length : Int)))
  (chk ((0 : Int) ≤ i ∧ i < (↑ns.length : Int)) (chk ((0 : Int) < IntKind.i64.wrap (IntKind.i64.wrap ((4 : Int) * pi) + (1 : Int)) ∧
  IntKind.i64.wrap (IntKind.i64.wrap ((4 : Int) * pi) + (1 : Int)) < (9223372036854775808 : Int)) (chk (m = sts.length) (chk ((sts.length + (1 : Nat)) * (8 : Nat) ≤ (140737488355328 : Nat)) (chk (sts.length + (1 : Nat) ≤ (9223372036854775807 : Nat)) (chk (m2 = dvs.length) (chk ((dvs.length + (1 : Nat)) * (8 : Nat) ≤ (140737488355328 : Nat)) (chk (dvs.length + (1 : Nat) ≤ (9223372036854775807 : Nat)) (Q (Ex.nrm) ([AV.row nl4 [K.int IntKind.i64] ns, AV.bool true, AV.ptr (0 : Nat) (0 : Nat), AV.ptr (1 : Nat) (0 : Nat),
  AV.int IntKind.i64 (IntKind.i64.wrap (i + (1 : Int)))]) ([AObj.box
    [AV.int IntKind.i64 z0, AV.int IntKind.i64 z1, AV.int IntKind.i64 z2, AV.int IntKind.i64 z3, AV.int IntKind.i64 z4,
      AV.nils, AV.int IntKind.i64 z5, AV.int IntKind.i64 z6, AV.int IntKind.i64 z7, AV.int IntKind.i64 z8, AV.nils,
      AV.nils, AV.int IntKind.i64 z9, AV.int IntKind.i64 z10, AV.int IntKind.i64 z11, AV.nils, AV.nils, AV.nils],
  AObj.box
    [AV.int IntKind.i64 n, AV.int IntKind.i64 pi, AV.int IntKind.i64 e, AV.int IntKind.i64 g, AV.int IntKind.i64 fi,
      AV.row nl [K.int IntKind.i64] ps, AV.int IntKind.i64 fk, AV.int IntKind.i64 fa, AV.int IntKind.i64 ff,
      AV.int IntKind.i64 ft, AV.row nl1 [K.int IntKind.i64, K.int IntKind.i64, K.str] acts,
      AV.row nl2 [K.int IntKind.i64] ds, AV.int IntKind.i64 ro, AV.int IntKind.i64 sl', AV.int IntKind.i64 dir, AV.nils,
      AV.sl (2 : Nat) (0 : Nat) (sts.length + (1 : Nat)), AV.sl (3 : Nat) (0 : Nat) (dvs.length + (1 : Nat))],
  AObj.arr (2 : Nat) (3 : Nat) [K.int IntKind.i64] (sts ++ [[AV.int IntKind.i64 (4 : Int)]]),
  AObj.arr (2 : Nat) (3 : Nat) [K.int IntKind.i64]
    (dvs ++
      [[AV.int IntKind.i64
            (IntKind.i64.wrap
              (s_rem ((ns.getD i.toNat []).getD (0 : Nat) AV.gone).toI
                  (IntKind.i64.wrap (IntKind.i64.wrap ((4 : Int) * pi) + (1 : Int))) -
                IntKind.i64.wrap ((2 : Int) * pi)))]])]))))))))))
  (chk (m = sts.length) (chk ((sts.length + (1 : Nat)) * (8 : Nat) ≤ (140737488355328 : Nat)) (chk (sts.length + (1 : Nat) ≤ (9223372036854775807 : Nat)) (chk (m2 = dvs.length) (chk ((dvs.length + (1 : Nat)) * (8 : Nat) ≤ (140737488355328 : Nat)) (chk (dvs.length + (1 : Nat) ≤ (9223372036854775807 : Nat)) (Q (Ex.nrm) ([AV.row nl4 [K.int IntKind.i64] ns, AV.bool true, AV.ptr (0 : Nat) (0 : Nat), AV.ptr (1 : Nat) (0 : Nat),
  AV.int IntKind.i64 (IntKind.i64.wrap (i + (1 : Int)))]) ([AObj.box
    [AV.int IntKind.i64 z0, AV.int IntKind.i64 z1, AV.int IntKind.i64 z2, AV.int IntKind.i64 z3, AV.int IntKind.i64 z4,
      AV.nils, AV.int IntKind.i64 z5, AV.int IntKind.i64 z6, AV.int IntKind.i64 z7, AV.int IntKind.i64 z8, AV.nils,
      AV.nils, AV.int IntKind.i64 z9, AV.int IntKind.i64 z10, AV.int IntKind.i64 z11, AV.nils, AV.nils, AV.nils],
  AObj.box
    [AV.int IntKind.i64 n, AV.int IntKind.i64 pi, AV.int IntKind.i64 e, AV.int IntKind.i64 g, AV.int IntKind.i64 fi,
      AV.row nl [K.int IntKind.i64] ps, AV.int IntKind.i64 fk, AV.int IntKind.i64 fa, AV.int IntKind.i64 ff,
      AV.int IntKind.i64 ft, AV.row nl1 [K.int IntKind.i64, K.int IntKind.i64, K.str] acts,
      AV.row nl2 [K.int IntKind.i64] ds, AV.int IntKind.i64 ro, AV.int IntKind.i64 sl', AV.int IntKind.i64 dir, AV.nils,
      AV.sl (2 : Nat) (0 : Nat) (sts.length + (1 : Nat)), AV.sl (3 : Nat) (0 : Nat) (dvs.length + (1 : Nat))],
  AObj.arr (2 : Nat) (3 : Nat) [K.int IntKind.i64] (sts ++ [[AV.int IntKind.i64 (4 : Int)]]),
  AObj.arr (2 : Nat) (3 : Nat) [K.int IntKind.i64] (dvs ++ [[AV.int IntKind.i64 (0 : Int)]])])))))))))
 (Q (Ex.exit (2 : Nat)) ([AV.ptr (0 : Nat) (0 : Nat), AV.ptr (1 : Nat) (0 : Nat)]) ([AObj.box
    [AV.int IntKind.i64 z0, AV.int IntKind.i64 z1, AV.int IntKind.i64 z2, AV.int IntKind.i64 z3, AV.int IntKind.i64 z4,
      AV.nils, AV.int IntKind.i64 z5, AV.int IntKind.i64 z6, AV.int IntKind.i64 z7, AV.int IntKind.i64 z8, AV.nils,
      AV.nils, AV.int IntKind.i64 z9, AV.int IntKind.i64 z10, AV.int IntKind.i64 z11, AV.nils, AV.nils, AV.nils],
  AObj.box
    [AV.int IntKind.i64 n, AV.int IntKind.i64 pi, AV.int IntKind.i64 e, AV.int IntKind.i64 g, AV.int IntKind.i64 fi,
      AV.row nl [K.int IntKind.i64] ps, AV.int IntKind.i64 fk, AV.int IntKind.i64 fa, AV.int IntKind.i64 ff,
      AV.int IntKind.i64 ft, AV.row nl1 [K.int IntKind.i64, K.int IntKind.i64, K.str] acts,
      AV.row nl2 [K.int IntKind.i64] ds, AV.int IntKind.i64 ro, AV.int IntKind.i64 sl', AV.int IntKind.i64 dir, AV.nils,
      AV.sl (2 : Nat) (0 : Nat) m, AV.sl (3 : Nat) (0 : Nat) m2],
  AObj.arr (2 : Nat) (3 : Nat) [K.int IntKind.i64] sts, AObj.arr (2 : Nat) (3 : Nat) [K.int IntKind.i64] dvs]))) := by kernel_rfl
theorem nfMkB3 (n pi e g fi fk fa ff ft ro sl' dir z0 z1 z2 z3 z4 z5 z6 z7 z8 z9 z10 z11 i : Int) (nl nl1 nl2 nl4 : Bool) (ps acts ds ns : List (List AV)) (ms : Nat) (ss : List (List AV)) (Q : Ex → List AV → List AObj → Prop) : lpBody Tryz.prog H0 Y2o 6 6 9 21 [.row nl4 [.int .i64] ns, .bool true, .ptr 0 0, .ptr 1 0, .int .i64 i] [.box [.int .i64 z0, .int .i64 z1, .int .i64 z2, .int .i64 z3, .int .i64 z4, .nils, .int .i64 z5, .int .i64 z6, .int .i64 z7, .int .i64 z8, .nils, .nils, .int .i64 z9, .int .i64 z10, .int .i64 z11, .nils, .nils, .nils], .box [.int .i64 n, .int .i64 pi, .int .i64 e, .int .i64 g, .int .i64 fi, .row nl [.int .i64] ps, .int .i64 fk, .int .i64 fa, .int .i64 ff, .int .i64 ft, .row nl1 [.int .i64, .int .i64, .str] acts, .row nl2 [.int .i64] ds, .int .i64 ro, .int .i64 sl', .int .i64 dir, .sl 2 0 ms, .nils, .nils], .arr 2 9 [.str] ss] Q = (
br (decide (i < n))
 (br (decide (i < (↑ns.length : Int)))
  (chk ((0 : Int) ≤ i ∧ i < (↑ns.length : Int)) (chk ((0 : Int) < IntKind.i64.wrap (IntKind.i64.wrap ((4 : Int) * pi) + (1 : Int)) ∧
  IntKind.i64.wrap (IntKind.i64.wrap ((4 : Int) * pi) + (1 : Int)) < (9223372036854775808 : Int)) (Q (Ex.nrm) ([AV.row nl4 [K.int IntKind.i64] ns, AV.bool true, AV.ptr (0 : Nat) (0 : Nat), AV.ptr (1 : Nat) (0 : Nat),
  AV.int IntKind.i64 (IntKind.i64.wrap (i + (1 : Int)))]) ([AObj.box
    [AV.int IntKind.i64 z0, AV.int IntKind.i64 z1, AV.int IntKind.i64 z2, AV.int IntKind.i64 z3, AV.int IntKind.i64 z4,
      AV.nils, AV.int IntKind.i64 z5, AV.int IntKind.i64 z6, AV.int IntKind.i64 z7, AV.int IntKind.i64 z8, AV.nils,
      AV.nils, AV.int IntKind.i64 z9, AV.int IntKind.i64 z10, AV.int IntKind.i64 z11, AV.nils, AV.nils, AV.nils],
  AObj.box
    [AV.int IntKind.i64 n, AV.int IntKind.i64 pi, AV.int IntKind.i64 e, AV.int IntKind.i64 g, AV.int IntKind.i64 fi,
      AV.row nl [K.int IntKind.i64] ps, AV.int IntKind.i64 fk, AV.int IntKind.i64 fa, AV.int IntKind.i64 ff,
      AV.int IntKind.i64 ft, AV.row nl1 [K.int IntKind.i64, K.int IntKind.i64, K.str] acts,
      AV.row nl2 [K.int IntKind.i64] ds, AV.int IntKind.i64 ro, AV.int IntKind.i64 sl', AV.int IntKind.i64 dir,
      AV.sl (2 : Nat) (0 : Nat) ms, AV.sl (3 : Nat) (0 : Nat) (1 : Nat), AV.sl (4 : Nat) (0 : Nat) (1 : Nat)],
  AObj.arr (2 : Nat) (9 : Nat) [K.str] ss,
  AObj.arr (2 : Nat) (3 : Nat) [K.int IntKind.i64] [[AV.int IntKind.i64 (4 : Int)]],
  AObj.arr (2 : Nat) (3 : Nat) [K.int IntKind.i64]
    [[AV.int IntKind.i64
          (IntKind.i64.wrap
            (s_rem ((ns.getD i.toNat []).getD (0 : Nat) AV.gone).toI
                (IntKind.i64.wrap (IntKind.i64.wrap ((4 : Int) * pi) + (1 : Int))) -
              IntKind.i64.wrap ((2 : Int) * pi)))]]]))))
  (Q (Ex.nrm) ([AV.row nl4 [K.int IntKind.i64] ns, AV.bool true, AV.ptr (0 : Nat) (0 : Nat), AV.ptr (1 : Nat) (0 : Nat),
  AV.int IntKind.i64 (IntKind.i64.wrap (i + (1 : Int)))]) ([AObj.box
    [AV.int IntKind.i64 z0, AV.int IntKind.i64 z1, AV.int IntKind.i64 z2, AV.int IntKind.i64 z3, AV.int IntKind.i64 z4,
      AV.nils, AV.int IntKind.i64 z5, AV.int IntKind.i64 z6, AV.int IntKind.i64 z7, AV.int IntKind.i64 z8, AV.nils,
      AV.nils, AV.int IntKind.i64 z9, AV.int IntKind.i64 z10, AV.int IntKind.i64 z11, AV.nils, AV.nils, AV.nils],
  AObj.box
    [AV.int IntKind.i64 n, AV.int IntKind.i64 pi, AV.int IntKind.i64 e, AV.int IntKind.i64 g, AV.int IntKind.i64 fi,
      AV.row nl [K.int IntKind.i64] ps, AV.int IntKind.i64 fk, AV.int IntKind.i64 fa, AV.int IntKind.i64 ff,
      AV.int IntKind.i64 ft, AV.row nl1 [K.int IntKind.i64, K.int IntKind.i64, K.str] acts,
      AV.row nl2 [K.int IntKind.i64] ds, AV.int IntKind.i64 ro, AV.int IntKind.i64 sl', AV.int IntKind.i64 dir,
      AV.sl (2 : Nat) (0 : Nat) ms, AV.sl (3 : Nat) (0 : Nat) (1 : Nat), AV.sl (4 : Nat) (0 : Nat) (1 : Nat)],
  AObj.arr (2 : Nat) (9 : Nat) [K.str] ss,
  AObj.arr (2 : Nat) (3 : Nat) [K.int IntKind.i64] [[AV.int IntKind.i64 (4 : Int)]],
  AObj.arr (2 : Nat) (3 : Nat) [K.int IntKind.i64] [[AV.int IntKind.i64 (0 : Int)]]])))
 (Q (Ex.exit (2 : Nat)) ([AV.ptr (0 : Nat) (0 : Nat), AV.ptr (1 : Nat) (0 : Nat)]) ([AObj.box
    [AV.int IntKind.i64 z0, AV.int IntKind.i64 z1, AV.int IntKind.i64 z2, AV.int IntKind.i64 z3, AV.int IntKind.i64 z4,
      AV.nils, AV.int IntKind.i64 z5, AV.int IntKind.i64 z6, AV.int IntKind.i64 z7, AV.int IntKind.i64 z8, AV.nils,
      AV.nils, AV.int IntKind.i64 z9, AV.int IntKind.i64 z10, AV.int IntKind.i64 z11, AV.nils, AV.nils, AV.nils],
  AObj.box
    [AV.int IntKind.i64 n, AV.int IntKind.i64 pi, AV.int IntKind.i64 e, AV.int IntKind.i64 g, AV.int IntKind.i64 fi,
      AV.row nl [K.int IntKind.i64] ps, AV.int IntKind.i64 fk, AV.int IntKind.i64 fa, AV.int IntKind.i64 ff,
      AV.int IntKind.i64 ft, AV.row nl1 [K.int IntKind.i64, K.int IntKind.i64, K.str] acts,
      AV.row nl2 [K.int IntKind.i64] ds, AV.int IntKind.i64 ro, AV.int IntKind.i64 sl', AV.int IntKind.i64 dir,
      AV.sl (2 : Nat) (0 : Nat) ms, AV.nils, AV.nils],
  AObj.arr (2 : Nat) (9 : Nat) [K.str] ss]))) := by kernel_rfl
theorem nfMkB4 (n pi e g fi fk fa ff ft ro sl' dir z0 z1 z2 z3 z4 z5 z6 z7 z8 z9 z10 z11 i : Int) (nl nl1 nl2 nl4 : Bool) (ps acts ds ns : List (List AV)) (ms m m2 : Nat) (ss sts dvs : List (List AV)) (Q : Ex → List AV → List AObj → Prop) : lpBody Tryz.prog H0 Y2o 6 6 9 21 [.row nl4 [.int .i64] ns, .bool true, .ptr 0 0, .ptr 1 0, .int .i64 i] [.box [.int .i64 z0, .int .i64 z1, .int .i64 z2, .int .i64 z3, .int .i64 z4, .nils, .int .i64 z5, .int .i64 z6, .int .i64 z7, .int .i64 z8, .nils, .nils, .int .i64 z9, .int .i64 z10, .int .i64 z11, .nils, .nils, .nils], .box [.int .i64 n, .int .i64 pi, .int .i64 e, .int .i64 g, .int .i64 fi, .row nl [.int .i64] ps, .int .i64 fk, .int .i64 fa, .int .i64 ff, .int .i64 ft, .row nl1 [.int .i64, .int .i64, .str] acts, .row nl2 [.int .i64] ds, .int .i64 ro, .int .i64 sl', .int .i64 dir, .sl 2 0 ms, .sl 3 0 m, .sl 4 0 m2], .arr 2 9 [.str] ss, .arr 2 3 [.int .i64] sts, .arr 2 3 [.int .i64] dvs] Q = (
br (decide (i < n))
 (br (decide (i < (↑ns.length : Int)))
  (chk ((0 : Int) ≤ i ∧ i < (↑ns.length : Int)) (chk ((0 : Int) < IntKind.i64.wrap (IntKind.i64.wrap ((4 : Int) * pi) + (1 : Int)) ∧
  IntKind.i64.wrap (IntKind.i64.wrap ((4 : Int) * pi) + (1 : Int)) < (9223372036854775808 : Int)) (chk (m = sts.length) (chk ((sts.length + (1 : Nat)) * (8 : Nat) ≤ (140737488355328 : Nat)) (chk (sts.length + (1 : Nat) ≤ (9223372036854775807 : Nat)) (chk (m2 = dvs.length) (chk ((dvs.length + (1 : Nat)) * (8 : Nat) ≤ (140737488355328 : Nat)) (chk (dvs.length + (1 : Nat) ≤ (9223372036854775807 : Nat)) (Q (Ex.nrm) ([AV.row nl4 [K.int IntKind.i64] ns, AV.bool true, AV.ptr (0 : Nat) (0 : Nat), AV.ptr (1 : Nat) (0 : Nat),
  AV.int IntKind.i64 (IntKind.i64.wrap (i + (1 : Int)))]) ([AObj.box
    [AV.int IntKind.i64 z0, AV.int IntKind.i64 z1, AV.int IntKind.i64 z2, AV.int IntKind.i64 z3, AV.int IntKind.i64 z4,
      AV.nils, AV.int IntKind.i64 z5, AV.int IntKind.i64 z6, AV.int IntKind.i64 z7, AV.int IntKind.i64 z8, AV.nils,
      AV.nils, AV.int IntKind.i64 z9, AV.int IntKind.i64 z10, AV.int IntKind.i64 z11, AV.nils, AV.nils, AV.nils],
  AObj.box
    [AV.int IntKind.i64 n, AV.int IntKind.i64 pi, AV.int IntKind.i64 e, AV.int IntKind.i64 g, AV.int IntKind.i64 fi,
      AV.row nl [K.int IntKind.i64] ps, AV.int IntKind.i64 fk, AV.int IntKind.i64 fa, AV.int IntKind.i64 ff,
      AV.int IntKind.i64 ft, AV.row nl1 [K.int IntKind.i64, K.int IntKind.i64, K.str] acts,
      AV.row nl2 [K.int IntKind.i64] ds, AV.int IntKind.i64 ro, AV.int IntKind.i64 sl', AV.int IntKind.i64 dir,
      AV.sl (2 : Nat) (0 : Nat) ms, AV.sl (3 : Nat) (0 : Nat) (sts.length + (1 : Nat)),
      AV.sl (4 : Nat) (0 : Nat) (dvs.length + (1 : Nat))],
  AObj.arr (2 : Nat) (9 : Nat) [K.str] ss,
  AObj.arr (2 : Nat) (3 : Nat) [K.int IntKind.i64] (sts ++ [[AV.int IntKind.i64 (4 : Int)]]),
  AObj.arr (2 : Nat) (3 : Nat) [K.int IntKind.i64]
    (dvs ++
      [[AV.int IntKind.i64
            (IntKind.i64.wrap
              (s_rem ((ns.getD i.toNat []).getD (0 : Nat) AV.gone).toI
                  (IntKind.i64.wrap (IntKind.i64.wrap ((4 : Int) * pi) + (1 : Int))) -
                IntKind.i64.wrap ((2 : Int) * pi)))]])]))))))))))
  (chk (m = sts.length) (chk ((sts.length + (1 : Nat)) * (8 : Nat) ≤ (140737488355328 : Nat)) (chk (sts.length + (1 : Nat) ≤ (9223372036854775807 : Nat)) (chk (m2 = dvs.length) (chk ((dvs.length + (1 : Nat)) * (8 : Nat) ≤ (140737488355328 : Nat)) (chk (dvs.length + (1 : Nat) ≤ (9223372036854775807 : Nat)) (Q (Ex.nrm) ([AV.row nl4 [K.int IntKind.i64] ns, AV.bool true, AV.ptr (0 : Nat) (0 : Nat), AV.ptr (1 : Nat) (0 : Nat),
  AV.int IntKind.i64 (IntKind.i64.wrap (i + (1 : Int)))]) ([AObj.box
    [AV.int IntKind.i64 z0, AV.int IntKind.i64 z1, AV.int IntKind.i64 z2, AV.int IntKind.i64 z3, AV.int IntKind.i64 z4,
      AV.nils, AV.int IntKind.i64 z5, AV.int IntKind.i64 z6, AV.int IntKind.i64 z7, AV.int IntKind.i64 z8, AV.nils,
      AV.nils, AV.int IntKind.i64 z9, AV.int IntKind.i64 z10, AV.int IntKind.i64 z11, AV.nils, AV.nils, AV.nils],
  AObj.box
    [AV.int IntKind.i64 n, AV.int IntKind.i64 pi, AV.int IntKind.i64 e, AV.int IntKind.i64 g, AV.int IntKind.i64 fi,
      AV.row nl [K.int IntKind.i64] ps, AV.int IntKind.i64 fk, AV.int IntKind.i64 fa, AV.int IntKind.i64 ff,
      AV.int IntKind.i64 ft, AV.row nl1 [K.int IntKind.i64, K.int IntKind.i64, K.str] acts,
      AV.row nl2 [K.int IntKind.i64] ds, AV.int IntKind.i64 ro, AV.int IntKind.i64 sl', AV.int IntKind.i64 dir,
      AV.sl (2 : Nat) (0 : Nat) ms, AV.sl (3 : Nat) (0 : Nat) (sts.length + (1 : Nat)),
      AV.sl (4 : Nat) (0 : Nat) (dvs.length + (1 : Nat))],
  AObj.arr (2 : Nat) (9 : Nat) [K.str] ss,
  AObj.arr (2 : Nat) (3 : Nat) [K.int IntKind.i64] (sts ++ [[AV.int IntKind.i64 (4 : Int)]]),
  AObj.arr (2 : Nat) (3 : Nat) [K.int IntKind.i64] (dvs ++ [[AV.int IntKind.i64 (0 : Int)]])])))))))))
 (Q (Ex.exit (2 : Nat)) ([AV.ptr (0 : Nat) (0 : Nat), AV.ptr (1 : Nat) (0 : Nat)]) ([AObj.box
    [AV.int IntKind.i64 z0, AV.int IntKind.i64 z1, AV.int IntKind.i64 z2, AV.int IntKind.i64 z3, AV.int IntKind.i64 z4,
      AV.nils, AV.int IntKind.i64 z5, AV.int IntKind.i64 z6, AV.int IntKind.i64 z7, AV.int IntKind.i64 z8, AV.nils,
      AV.nils, AV.int IntKind.i64 z9, AV.int IntKind.i64 z10, AV.int IntKind.i64 z11, AV.nils, AV.nils, AV.nils],
  AObj.box
    [AV.int IntKind.i64 n, AV.int IntKind.i64 pi, AV.int IntKind.i64 e, AV.int IntKind.i64 g, AV.int IntKind.i64 fi,
      AV.row nl [K.int IntKind.i64] ps, AV.int IntKind.i64 fk, AV.int IntKind.i64 fa, AV.int IntKind.i64 ff,
      AV.int IntKind.i64 ft, AV.row nl1 [K.int IntKind.i64, K.int IntKind.i64, K.str] acts,
      AV.row nl2 [K.int IntKind.i64] ds, AV.int IntKind.i64 ro, AV.int IntKind.i64 sl', AV.int IntKind.i64 dir,
      AV.sl (2 : Nat) (0 : Nat) ms, AV.sl (3 : Nat) (0 : Nat) m, AV.sl (4 : Nat) (0 : Nat) m2],
  AObj.arr (2 : Nat) (9 : Nat) [K.str] ss, AObj.arr (2 : Nat) (3 : Nat) [K.int IntKind.i64] sts,
  AObj.arr (2 : Nat) (3 : Nat) [K.int IntKind.i64] dvs]))) := by kernel_rfl
theorem nfMake9 (n0 pi0 e0 g0 fi0 fk fa ff ft round slot k r sl pk pv : Int) (nl0 nl1 nl2 nl3 nl4 up : Bool) (ps0 acts ds ec ns : List (List AV)) (Q : AV × List AObj → Prop) : inlW Tryz.prog H0 Y2L 6 (InO Tryz.prog H0 Y2L 6 6) 9 [cf n0 pi0 e0 g0 fi0 nl0 ps0, .agg [.int .i64 fk, .int .i64 fa, .int .i64 ff, .int .i64 ft, .row nl1 [.int .i64, .int .i64, .str] acts, .row nl2 [.int .i64] ds], .int .i64 round, .int .i64 slot, .bool up, .agg [.int .i64 k, .int .i64 r, .int .i64 sl, .int .i64 pk, .int .i64 pv, .row nl3 [.int .i64, .int .i64] ec], .row nl4 [.int .i64] ns, .bool true] [] Q = (
(∀ (n'100 : Int),
(∀ (pi'101 : Int),
(∀ (e'102 : Int),
(∀ (g'103 : Int),
(∀ (fi'104 : Int),
(∀ (nl'105 : Bool),
(∀ (ps106 : List Int),
((s_made n'100 pi'101 e'102 g'103 fi'104 ps106) →
((Hyp ((6 : Int) ≤ n'100 ∧ n'100 ≤ (12 : Int))) ∧
((∀ (k'109 : Int),
(∀ (a'110 : Int),
(∀ (f'111 : Int),
(∀ (t'112 : Int),
(∀ (nl1'113 : Bool),
(∀ (nl2'114 : Bool),
(∀ (acts'115 : List (List AV)),
(∀ (ds'116 : List Int),
((s_fok n'100 k'109 a'110 f'111 t'112 acts'115 ds'116) →
chk ((0 : Int) < IntKind.i64.wrap (n'100 + (↑(List.map (fun n => [AV.int IntKind.i64 n]) ps106).length : Int)) ∧
  IntKind.i64.wrap (n'100 + (↑(List.map (fun n => [AV.int IntKind.i64 n]) ps106).length : Int)) <
    (9223372036854775808 : Int)) (br (!up)
 (br (decide (t'112 > f'111))
  (chk ((0 : Int) < IntKind.i64.wrap (t'112 - f'111) ∧ IntKind.i64.wrap (t'112 - f'111) < (9223372036854775808 : Int)) (((Hyp ((6 : Int) ≤ n'100 ∧
  n'100 ≤ (12 : Int) ∧
    (List.map (fun n => [AV.int IntKind.i64 n]) ps106).length ≤ (3 : Nat) ∧
      ∀ (r : List AV), r ∈ irow IntKind.i64 ps106 → ∃ p, r = [AV.int IntKind.i64 p] ∧ (-1 : Int) ≤ p ∧ p < n'100)) ∧
  ((∀ (nl'123 : Bool),
  (∀ (rows124 : List (List AV)),
  ((rows124.length ≤ (2 : Nat)) →
  ((Hyp ((0 : Int) = (0 : Int) ∧
  rows124.length ≤ (2 : Nat) ∧
    (6 : Int) ≤ n'100 ∧ n'100 ≤ (12 : Int) ∧ (List.map (fun n => [AV.int IntKind.i64 n]) ps106).length ≤ (3 : Nat))) ∧
  (((((Hyp ((0 : Int) = (0 : Int) ∧ (6 : Int) ≤ n'100 ∧ n'100 ≤ (12 : Int) ∧ (4 : Int) ≤ pi'101 ∧ pi'101 ≤ (1000 : Int))) ∧
  ((∀ (m'129 : Nat),
  (∀ (dv130 : List Int),
  (((↑m'129 : Int) = n'100) →
  ((s_devs pi'101 m'129 dv130) →
  Q ((AV.agg
    [AV.int IntKind.i64 n'100, AV.int IntKind.i64 pi'101, AV.int IntKind.i64 e'102, AV.int IntKind.i64 g'103,
      AV.int IntKind.i64 fi'104, AV.row nl'105 [K.int IntKind.i64] (List.map (fun n => [AV.int IntKind.i64 n]) ps106),
      AV.int IntKind.i64 k'109, AV.int IntKind.i64 a'110, AV.int IntKind.i64 f'111, AV.int IntKind.i64 t'112,
      AV.row nl1'113 [K.int IntKind.i64, K.int IntKind.i64, K.str] acts'115,
      AV.row nl2'114 [K.int IntKind.i64] (List.map (fun n => [AV.int IntKind.i64 n]) ds'116),
      AV.int IntKind.i64 (IntKind.i64.wrap (f'111 + s_rem round (IntKind.i64.wrap (t'112 - f'111)))),
      AV.int IntKind.i64
        (s_rem slot (IntKind.i64.wrap (n'100 + (↑(List.map (fun n => [AV.int IntKind.i64 n]) ps106).length : Int)))),
      AV.int IntKind.i64 (-1 : Int), AV.nils, AV.sl (0 : Nat) (0 : Nat) m'129, AV.sl (1 : Nat) (0 : Nat) m'129],
  [AObj.arr (2 : Nat) (3 : Nat) [K.int IntKind.i64] (s_rep m'129 (4 : Int)),
    AObj.arr (2 : Nat) (3 : Nat) [K.int IntKind.i64] (List.map (fun n => [AV.int IntKind.i64 n]) dv130)]))))))))) ∧
  ((∀ (rows128 : List (List AV)),
  ((rows128.length ≤ (2 : Nat)) →
  ((s_strs rows128) →
  ((Hyp ((0 : Int) = (0 : Int) ∧ (6 : Int) ≤ n'100 ∧ n'100 ≤ (12 : Int) ∧ (4 : Int) ≤ pi'101 ∧ pi'101 ≤ (1000 : Int))) ∧
  ((∀ (m'132 : Nat),
  (∀ (dv133 : List Int),
  (((↑m'132 : Int) = n'100) →
  ((s_devs pi'101 m'132 dv133) →
  Q ((AV.agg
    [AV.int IntKind.i64 n'100, AV.int IntKind.i64 pi'101, AV.int IntKind.i64 e'102, AV.int IntKind.i64 g'103,
      AV.int IntKind.i64 fi'104, AV.row nl'105 [K.int IntKind.i64] (List.map (fun n => [AV.int IntKind.i64 n]) ps106),
      AV.int IntKind.i64 k'109, AV.int IntKind.i64 a'110, AV.int IntKind.i64 f'111, AV.int IntKind.i64 t'112,
      AV.row nl1'113 [K.int IntKind.i64, K.int IntKind.i64, K.str] acts'115,
      AV.row nl2'114 [K.int IntKind.i64] (List.map (fun n => [AV.int IntKind.i64 n]) ds'116),
      AV.int IntKind.i64 (IntKind.i64.wrap (f'111 + s_rem round (IntKind.i64.wrap (t'112 - f'111)))),
      AV.int IntKind.i64
        (s_rem slot (IntKind.i64.wrap (n'100 + (↑(List.map (fun n => [AV.int IntKind.i64 n]) ps106).length : Int)))),
      AV.int IntKind.i64 (-1 : Int), AV.sl (0 : Nat) (0 : Nat) rows128.length, AV.sl (1 : Nat) (0 : Nat) m'132,
      AV.sl (2 : Nat) (0 : Nat) m'132],
  [AObj.arr (2 : Nat) (9 : Nat) [K.str] rows128,
    AObj.arr (2 : Nat) (3 : Nat) [K.int IntKind.i64] (s_rep m'132 (4 : Int)),
    AObj.arr (2 : Nat) (3 : Nat) [K.int IntKind.i64] (List.map (fun n => [AV.int IntKind.i64 n]) dv133)]))))))))))))))))))))))
  (((Hyp ((6 : Int) ≤ n'100 ∧
  n'100 ≤ (12 : Int) ∧
    (List.map (fun n => [AV.int IntKind.i64 n]) ps106).length ≤ (3 : Nat) ∧
      ∀ (r : List AV), r ∈ irow IntKind.i64 ps106 → ∃ p, r = [AV.int IntKind.i64 p] ∧ (-1 : Int) ≤ p ∧ p < n'100)) ∧
  ((∀ (nl'122 : Bool),
  (∀ (rows123 : List (List AV)),
  ((rows123.length ≤ (2 : Nat)) →
  ((Hyp ((0 : Int) = (0 : Int) ∧
  rows123.length ≤ (2 : Nat) ∧
    (6 : Int) ≤ n'100 ∧ n'100 ≤ (12 : Int) ∧ (List.map (fun n => [AV.int IntKind.i64 n]) ps106).length ≤ (3 : Nat))) ∧
  (((((Hyp ((0 : Int) = (0 : Int) ∧ (6 : Int) ≤ n'100 ∧ n'100 ≤ (12 : Int) ∧ (4 : Int) ≤ pi'101 ∧ pi'101 ≤ (1000 : Int))) ∧
  ((∀ (m'128 : Nat),
  (∀ (dv129 : List Int),
  (((↑m'128 : Int) = n'100) →
  ((s_devs pi'101 m'128 dv129) →
  Q ((AV.agg
    [AV.int IntKind.i64 n'100, AV.int IntKind.i64 pi'101, AV.int IntKind.i64 e'102, AV.int IntKind.i64 g'103,
      AV.int IntKind.i64 fi'104, AV.row nl'105 [K.int IntKind.i64] (List.map (fun n => [AV.int IntKind.i64 n]) ps106),
      AV.int IntKind.i64 k'109, AV.int IntKind.i64 a'110, AV.int IntKind.i64 f'111, AV.int IntKind.i64 t'112,
      AV.row nl1'113 [K.int IntKind.i64, K.int IntKind.i64, K.str] acts'115,
      AV.row nl2'114 [K.int IntKind.i64] (List.map (fun n => [AV.int IntKind.i64 n]) ds'116),
      AV.int IntKind.i64 (s_rem round (130 : Int)),
      AV.int IntKind.i64
        (s_rem slot (IntKind.i64.wrap (n'100 + (↑(List.map (fun n => [AV.int IntKind.i64 n]) ps106).length : Int)))),
      AV.int IntKind.i64 (-1 : Int), AV.nils, AV.sl (0 : Nat) (0 : Nat) m'128, AV.sl (1 : Nat) (0 : Nat) m'128],
  [AObj.arr (2 : Nat) (3 : Nat) [K.int IntKind.i64] (s_rep m'128 (4 : Int)),
    AObj.arr (2 : Nat) (3 : Nat) [K.int IntKind.i64] (List.map (fun n => [AV.int IntKind.i64 n]) dv129)]))))))))) ∧
  ((∀ (rows127 : List (List AV)),
  ((rows127.length ≤ (2 : Nat)) →
  ((s_strs rows127) →
  ((Hyp ((0 : Int) = (0 : Int) ∧ (6 : Int) ≤ n'100 ∧ n'100 ≤ (12 : Int) ∧ (4 : Int) ≤ pi'101 ∧ pi'101 ≤ (1000 : Int))) ∧
  ((∀ (m'131 : Nat),
  (∀ (dv132 : List Int),
  (((↑m'131 : Int) = n'100) →
  ((s_devs pi'101 m'131 dv132) →
  Q ((AV.agg
    [AV.int IntKind.i64 n'100, AV.int IntKind.i64 pi'101, AV.int IntKind.i64 e'102, AV.int IntKind.i64 g'103,
      AV.int IntKind.i64 fi'104, AV.row nl'105 [K.int IntKind.i64] (List.map (fun n => [AV.int IntKind.i64 n]) ps106),
      AV.int IntKind.i64 k'109, AV.int IntKind.i64 a'110, AV.int IntKind.i64 f'111, AV.int IntKind.i64 t'112,
      AV.row nl1'113 [K.int IntKind.i64, K.int IntKind.i64, K.str] acts'115,
      AV.row nl2'114 [K.int IntKind.i64] (List.map (fun n => [AV.int IntKind.i64 n]) ds'116),
      AV.int IntKind.i64 (s_rem round (130 : Int)),
      AV.int IntKind.i64
        (s_rem slot (IntKind.i64.wrap (n'100 + (↑(List.map (fun n => [AV.int IntKind.i64 n]) ps106).length : Int)))),
      AV.int IntKind.i64 (-1 : Int), AV.sl (0 : Nat) (0 : Nat) rows127.length, AV.sl (1 : Nat) (0 : Nat) m'131,
      AV.sl (2 : Nat) (0 : Nat) m'131],
  [AObj.arr (2 : Nat) (9 : Nat) [K.str] rows127,
    AObj.arr (2 : Nat) (3 : Nat) [K.int IntKind.i64] (s_rep m'131 (4 : Int)),
    AObj.arr (2 : Nat) (3 : Nat) [K.int IntKind.i64] (List.map (fun n => [AV.int IntKind.i64 n]) dv132)]))))))))))))))))))))))
 (br (decide (t'112 > f'111))
  (chk ((0 : Int) < IntKind.i64.wrap (t'112 - f'111) ∧ IntKind.i64.wrap (t'112 - f'111) < (9223372036854775808 : Int)) (((Hyp ((6 : Int) ≤ n'100 ∧
  n'100 ≤ (12 : Int) ∧
    (List.map (fun n => [AV.int IntKind.i64 n]) ps106).length ≤ (3 : Nat) ∧
      ∀ (r : List AV), r ∈ irow IntKind.i64 ps106 → ∃ p, r = [AV.int IntKind.i64 p] ∧ (-1 : Int) ≤ p ∧ p < n'100)) ∧
  ((∀ (nl'123 : Bool),
  (∀ (rows124 : List (List AV)),
  ((rows124.length ≤ (2 : Nat)) →
  ((Hyp ((0 : Int) = (0 : Int) ∧
  rows124.length ≤ (2 : Nat) ∧
    (6 : Int) ≤ n'100 ∧ n'100 ≤ (12 : Int) ∧ (List.map (fun n => [AV.int IntKind.i64 n]) ps106).length ≤ (3 : Nat))) ∧
  (((((Hyp ((0 : Int) = (0 : Int) ∧ (6 : Int) ≤ n'100 ∧ n'100 ≤ (12 : Int) ∧ (4 : Int) ≤ pi'101 ∧ pi'101 ≤ (1000 : Int))) ∧
  ((∀ (m'129 : Nat),
  (∀ (dv130 : List Int),
  (((↑m'129 : Int) = n'100) →
  ((s_devs pi'101 m'129 dv130) →
  Q ((AV.agg
    [AV.int IntKind.i64 n'100, AV.int IntKind.i64 pi'101, AV.int IntKind.i64 e'102, AV.int IntKind.i64 g'103,
      AV.int IntKind.i64 fi'104, AV.row nl'105 [K.int IntKind.i64] (List.map (fun n => [AV.int IntKind.i64 n]) ps106),
      AV.int IntKind.i64 k'109, AV.int IntKind.i64 a'110, AV.int IntKind.i64 f'111, AV.int IntKind.i64 t'112,
      AV.row nl1'113 [K.int IntKind.i64, K.int IntKind.i64, K.str] acts'115,
      AV.row nl2'114 [K.int IntKind.i64] (List.map (fun n => [AV.int IntKind.i64 n]) ds'116),
      AV.int IntKind.i64 (IntKind.i64.wrap (f'111 + s_rem round (IntKind.i64.wrap (t'112 - f'111)))),
      AV.int IntKind.i64
        (s_rem slot (IntKind.i64.wrap (n'100 + (↑(List.map (fun n => [AV.int IntKind.i64 n]) ps106).length : Int)))),
      AV.int IntKind.i64 (1 : Int), AV.nils, AV.sl (0 : Nat) (0 : Nat) m'129, AV.sl (1 : Nat) (0 : Nat) m'129],
  [AObj.arr (2 : Nat) (3 : Nat) [K.int IntKind.i64] (s_rep m'129 (4 : Int)),
    AObj.arr (2 : Nat) (3 : Nat) [K.int IntKind.i64] (List.map (fun n => [AV.int IntKind.i64 n]) dv130)]))))))))) ∧
  ((∀ (rows128 : List (List AV)),
  ((rows128.length ≤ (2 : Nat)) →
  ((s_strs rows128) →
  ((Hyp ((0 : Int) = (0 : Int) ∧ (6 : Int) ≤ n'100 ∧ n'100 ≤ (12 : Int) ∧ (4 : Int) ≤ pi'101 ∧ pi'101 ≤ (1000 : Int))) ∧
  ((∀ (m'132 : Nat),
  (∀ (dv133 : List Int),
  (((↑m'132 : Int) = n'100) →
  ((s_devs pi'101 m'132 dv133) →
  Q ((AV.agg
    [AV.int IntKind.i64 n'100, AV.int IntKind.i64 pi'101, AV.int IntKind.i64 e'102, AV.int IntKind.i64 g'103,
      AV.int IntKind.i64 fi'104, AV.row nl'105 [K.int IntKind.i64] (List.map (fun n => [AV.int IntKind.i64 n]) ps106),
      AV.int IntKind.i64 k'109, AV.int IntKind.i64 a'110, AV.int IntKind.i64 f'111, AV.int IntKind.i64 t'112,
      AV.row nl1'113 [K.int IntKind.i64, K.int IntKind.i64, K.str] acts'115,
      AV.row nl2'114 [K.int IntKind.i64] (List.map (fun n => [AV.int IntKind.i64 n]) ds'116),
      AV.int IntKind.i64 (IntKind.i64.wrap (f'111 + s_rem round (IntKind.i64.wrap (t'112 - f'111)))),
      AV.int IntKind.i64
        (s_rem slot (IntKind.i64.wrap (n'100 + (↑(List.map (fun n => [AV.int IntKind.i64 n]) ps106).length : Int)))),
      AV.int IntKind.i64 (1 : Int), AV.sl (0 : Nat) (0 : Nat) rows128.length, AV.sl (1 : Nat) (0 : Nat) m'132,
      AV.sl (2 : Nat) (0 : Nat) m'132],
  [AObj.arr (2 : Nat) (9 : Nat) [K.str] rows128,
    AObj.arr (2 : Nat) (3 : Nat) [K.int IntKind.i64] (s_rep m'132 (4 : Int)),
    AObj.arr (2 : Nat) (3 : Nat) [K.int IntKind.i64] (List.map (fun n => [AV.int IntKind.i64 n]) dv133)]))))))))))))))))))))))
  (((Hyp ((6 : Int) ≤ n'100 ∧
  n'100 ≤ (12 : Int) ∧
    (List.map (fun n => [AV.int IntKind.i64 n]) ps106).length ≤ (3 : Nat) ∧
      ∀ (r : List AV), r ∈ irow IntKind.i64 ps106 → ∃ p, r = [AV.int IntKind.i64 p] ∧ (-1 : Int) ≤ p ∧ p < n'100)) ∧
  ((∀ (nl'122 : Bool),
  (∀ (rows123 : List (List AV)),
  ((rows123.length ≤ (2 : Nat)) →
  ((Hyp ((0 : Int) = (0 : Int) ∧
  rows123.length ≤ (2 : Nat) ∧
    (6 : Int) ≤ n'100 ∧ n'100 ≤ (12 : Int) ∧ (List.map (fun n => [AV.int IntKind.i64 n]) ps106).length ≤ (3 : Nat))) ∧
  (((((Hyp ((0 : Int) = (0 : Int) ∧ (6 : Int) ≤ n'100 ∧ n'100 ≤ (12 : Int) ∧ (4 : Int) ≤ pi'101 ∧ pi'101 ≤ (1000 : Int))) ∧
  ((∀ (m'128 : Nat),
  (∀ (dv129 : List Int),
  (((↑m'128 : Int) = n'100) →
  ((s_devs pi'101 m'128 dv129) →
  Q ((AV.agg
    [AV.int IntKind.i64 n'100, AV.int IntKind.i64 pi'101, AV.int IntKind.i64 e'102, AV.int IntKind.i64 g'103,
      AV.int IntKind.i64 fi'104, AV.row nl'105 [K.int IntKind.i64] (List.map (fun n => [AV.int IntKind.i64 n]) ps106),
      AV.int IntKind.i64 k'109, AV.int IntKind.i64 a'110, AV.int IntKind.i64 f'111, AV.int IntKind.i64 t'112,
      AV.row nl1'113 [K.int IntKind.i64, K.int IntKind.i64, K.str] acts'115,
      AV.row nl2'114 [K.int IntKind.i64] (List.map (fun n => [AV.int IntKind.i64 n]) ds'116),
      AV.int IntKind.i64 (s_rem round (130 : Int)),
      AV.int IntKind.i64
        (s_rem slot (IntKind.i64.wrap (n'100 + (↑(List.map (fun n => [AV.int IntKind.i64 n]) ps106).length : Int)))),
      AV.int IntKind.i64 (1 : Int), AV.nils, AV.sl (0 : Nat) (0 : Nat) m'128, AV.sl (1 : Nat) (0 : Nat) m'128],
  [AObj.arr (2 : Nat) (3 : Nat) [K.int IntKind.i64] (s_rep m'128 (4 : Int)),
    AObj.arr (2 : Nat) (3 : Nat) [K.int IntKind.i64] (List.map (fun n => [AV.int IntKind.i64 n]) dv129)]))))))))) ∧
  ((∀ (rows127 : List (List AV)),
  ((rows127.length ≤ (2 : Nat)) →
  ((s_strs rows127) →
  ((Hyp ((0 : Int) = (0 : Int) ∧ (6 : Int) ≤ n'100 ∧ n'100 ≤ (12 : Int) ∧ (4 : Int) ≤ pi'101 ∧ pi'101 ≤ (1000 : Int))) ∧
  ((∀ (m'131 : Nat),
  (∀ (dv132 : List Int),
  (((↑m'131 : Int) = n'100) →
  ((s_devs pi'101 m'131 dv132) →
  Q ((AV.agg
    [AV.int IntKind.i64 n'100, AV.int IntKind.i64 pi'101, AV.int IntKind.i64 e'102, AV.int IntKind.i64 g'103,
      AV.int IntKind.i64 fi'104, AV.row nl'105 [K.int IntKind.i64] (List.map (fun n => [AV.int IntKind.i64 n]) ps106),
      AV.int IntKind.i64 k'109, AV.int IntKind.i64 a'110, AV.int IntKind.i64 f'111, AV.int IntKind.i64 t'112,
      AV.row nl1'113 [K.int IntKind.i64, K.int IntKind.i64, K.str] acts'115,
      AV.row nl2'114 [K.int IntKind.i64] (List.map (fun n => [AV.int IntKind.i64 n]) ds'116),
      AV.int IntKind.i64 (s_rem round (130 : Int)),
      AV.int IntKind.i64
        (s_rem slot (IntKind.i64.wrap (n'100 + (↑(List.map (fun n => [AV.int IntKind.i64 n]) ps106).length : Int)))),
      AV.int IntKind.i64 (1 : Int), AV.sl (0 : Nat) (0 : Nat) rows127.length, AV.sl (1 : Nat) (0 : Nat) m'131,
      AV.sl (2 : Nat) (0 : Nat) m'131],
  [AObj.arr (2 : Nat) (9 : Nat) [K.str] rows127,
    AObj.arr (2 : Nat) (3 : Nat) [K.int IntKind.i64] (s_rep m'131 (4 : Int)),
    AObj.arr (2 : Nat) (3 : Nat) [K.int IntKind.i64] (List.map (fun n => [AV.int IntKind.i64 n]) dv132)]))))))))))))))))))))))))))))))))))))))))))) := by kernel_rfl
end Go.Proofs.YtiemjcchlfbglaaGreatE
/- Cases of the laws of spread, made: the specs hold. -/
namespace Go.Proofs.YtiemjcchlfbglaaGreatE
open Go
set_option linter.unusedVariables false
set_option linter.unusedSimpArgs false
set_option maxRecDepth 100000

theorem okOwnDr : OkS Tryz.prog H0 20 sOwnDr := by
  intro args h Q hq
  unfold sOwnDr at hq
  split at hq
  · rename_i n pi e g fi nl ps slot
    obtain ⟨⟨n1, n2, hl, hp⟩, hq⟩ := hyp_iff.1 hq
    refine in_ok (S := Y1) (U := 6) (k := 6) okY1 (to (nfOwnD ..) ?_)
    have w0 : IntKind.i64.wrap (n + (ps.length : Int)) = n + ps.length := wr (by omega) (by omega)
    rw [w0]
    refine br_intro (fun _ => hq _ _ (Nat.zero_le _)) fun c => br_intro (fun _ => hq _ _ (Nat.zero_le _)) fun c2 => br_intro (fun _ => hq _ _ (by decide : 1 ≤ 2)) fun c3 => ?_
    have c := of_decide_eq_false c
    have c2 := of_decide_eq_false c2
    have c3 := of_decide_eq_false c3
    rw [wr (x := slot - n) (by omega) (by omega), chk_iff]
    refine ⟨by omega, br_intro (fun _ => hq _ _ (Nat.zero_le _)) fun _ => ?_⟩
    rw [chk_iff, chk_iff]
    exact ⟨by omega, by omega, hq _ _ (by decide : 2 ≤ 2)⟩
  · exact hq.elim
theorem okY2o : OkSp Tryz.prog H0 Y2o := ⟨⟨okOwnDr, okY1.fn⟩, trivial⟩
theorem dv_lo {x pi : Int} (h1 : 0 ≤ x) (h2 : x < 4 * pi + 1) (p2 : pi ≤ 1000) (p1 : 4 ≤ pi) : -(2 * pi) ≤ IntKind.i64.wrap (x - 2 * pi) := by
  rw [wr (by omega) (by omega)]; omega
theorem dv_hi {x pi : Int} (h1 : 0 ≤ x) (h2 : x < 4 * pi + 1) (p2 : pi ≤ 1000) (p1 : 4 ≤ pi) : IntKind.i64.wrap (x - 2 * pi) ≤ 2 * pi := by
  rw [wr (by omega) (by omega)]; omega
theorem okLMkA : OkLp Tryz.prog H0 9 11 lMkA := by
  refine okLp_of (U := 6) (k := 6) okY2o lMkA (fun vals _ => match vals with | [_, _, _, _, _, .row _ _ os, .int _ i] => ((os.length : Int) - i).toNat | _ => 0) fun vals h Q hl => ?_
  unfold lMkA at hl
  split at hl
  rotate_left
  · exact hl.elim
  rename_i nl4 ns nlo os i
  unfold lMkA2 at hl
  split at hl
  rotate_left
  · exact hl.elim
  rename_i k r sl pk pv nl3 ec h'
  unfold lMkA3 at hl
  split at hl
  rotate_left
  · exact hl.elim
  rename_i z0 z1 z2 z3 z4 z5 z6 z7 z8 z9 z10 z11 n pi e g fi nl ps fk fa ff ft nl1 acts nl2 ds ro sl' dir A rest
  unfold lMkA1 at hl
  split at hl
  · obtain ⟨⟨h0, h1, n1, n2, h2⟩, hq1, hq2⟩ := hyp_iff.1 hl
    subst h0
    have w1 : IntKind.i64.wrap (0 + 1) = ((1 : Nat) : Int) := wr (by omega) (by omega)
    refine to (nfMkA1 ..) (br_intro (fun c => hyp_iff.2 ⟨⟨n1, n2, h2⟩, fun k' r' s' p1 p2 nl' rows hr => br_intro (fun c1 => absurd (of_decide_eq_true c1) (by omega)) fun c1 => hyp_iff.2 ⟨by omega, fun z hz => ?_⟩⟩) fun _ => hq1)
    have c := of_decide_eq_true c
    have hm : ((os.length : Int) - ((1 : Nat) : Int)).toNat < ((os.length : Int) - 0).toNat := by omega
    have st : ∀ y : ByteArray, y.size ≤ 1000 → ((1 : Nat) : Int) = ((1 : Nat) : Int) ∧ ([[AV.str y]] : List (List AV)).length = 1 ∧ 0 < 1 ∧ 1 ≤ os.length ∧ s_strs [[AV.str y]] ∧ os.length ≤ 2 ∧ 6 ≤ n ∧ n ≤ 12 ∧ ps.length ≤ 3 := fun y hy =>
      ⟨rfl, rfl, by omega, by omega, fun r hr => ⟨y, List.mem_singleton.1 hr, hy⟩, h1, n1, n2, h2⟩
    rw [w1]
    refine br_intro (fun c5 => chk_iff.2 ⟨by have := of_decide_eq_true c5; omega, br_intro (fun _ => ⟨hm, st _ (Nat.zero_le _), hq2⟩) fun _ => ⟨hm, st z hz.2.2, hq2⟩⟩) fun _ => ⟨hm, st z hz.2.2, hq2⟩
  · rename_i m rs
    obtain ⟨⟨h0, hl1, hm0, hm1, hss, h1, n1, n2, h2⟩, hq2⟩ := hl
    subst h0; subst hl1
    have w1 : IntKind.i64.wrap ((rs.length : Int) + 1) = ((rs.length + 1 : Nat) : Int) := wr (by omega) (by omega)
    refine to (nfMkA2 ..) (br_intro (fun c => hyp_iff.2 ⟨⟨n1, n2, h2⟩, fun k' r' s' p1 p2 nl' rows hr => ?_⟩) fun _ => hq2 rs (by omega) hss)
    have c := of_decide_eq_true c
    have hm : ((os.length : Int) - ((rs.length + 1 : Nat) : Int)).toNat < ((os.length : Int) - (rs.length : Int)).toNat := by omega
    have st : ∀ y : ByteArray, y.size ≤ 1000 → ((rs.length + 1 : Nat) : Int) = ((rs.length + 1 : Nat) : Int) ∧ (rs ++ [[AV.str y]]).length = rs.length + 1 ∧ 0 < rs.length + 1 ∧ rs.length + 1 ≤ os.length ∧ s_strs (rs ++ [[AV.str y]]) ∧ os.length ≤ 2 ∧ 6 ≤ n ∧ n ≤ 12 ∧ ps.length ≤ 3 := fun y hy =>
      ⟨rfl, by simp, by omega, by omega, fun r hr => by
        rcases List.mem_append.1 hr with hr | hr
        · exact hss r hr
        · exact ⟨y, List.mem_singleton.1 hr, hy⟩, h1, n1, n2, h2⟩
    rw [w1]
    refine br_intro (fun c1 => br_intro (fun c2 => chk_iff.2 ⟨by have := of_decide_eq_true c2; omega, br_intro (fun _ => chk_iff.2 ⟨by have := of_decide_eq_true c2; omega, fun _ _ => hyp_iff.2 ⟨by omega, ?_⟩⟩) fun _ => hyp_iff.2 ⟨by omega, ?_⟩⟩) fun c2 => hyp_iff.2 ⟨by omega, ?_⟩) fun c1 => hyp_iff.2 ⟨by omega, ?_⟩
    all_goals
      intro z hz
      refine br_intro (fun c5 => chk_iff.2 ⟨by have := of_decide_eq_true c5; omega, br_intro (fun _ => ?_) fun _ => ?_⟩) fun _ => ?_
      · rw [chk_iff, chk_iff, chk_iff]
        exact ⟨rfl, by omega, by omega, hm, st _ (Nat.zero_le _), hq2⟩
      · rw [chk_iff, chk_iff, chk_iff]
        exact ⟨rfl, by omega, by omega, hm, st z hz.2.2, hq2⟩
      · rw [chk_iff, chk_iff, chk_iff]
        exact ⟨rfl, by omega, by omega, hm, st z hz.2.2, hq2⟩
  · exact hl.elim
theorem okLMkB : OkLp Tryz.prog H0 9 21 lMkB := by
  refine okLp_of (U := 6) (k := 6) okY2o lMkB (fun vals h => match vals, h with | [_, _, _, _, .int _ i], _ :: .box (.int _ n :: _) :: _ => (n - i).toNat | _, _ => 0) fun vals h Q hl => ?_
  unfold lMkB at hl
  split at hl
  rotate_left
  · exact hl.elim
  rename_i nl4 ns i z0 z1 z2 z3 z4 z5 z6 z7 z8 z9 z10 z11 n pi e g fi nl ps fk fa ff ft nl1 acts nl2 ds ro sl' dir S A D rest
  unfold lMkB1 at hl
  split at hl
  · obtain ⟨⟨h0, n1, n2, p1, p2⟩, hq⟩ := hyp_iff.1 hl
    subst h0
    have w1 : IntKind.i64.wrap (0 + 1) = ((1 : Nat) : Int) := wr (by omega) (by omega)
    have w4 : IntKind.i64.wrap (IntKind.i64.wrap (4 * pi) + 1) = 4 * pi + 1 := by rw [wr (x := 4 * pi) (by omega) (by omega)]; exact wr (by omega) (by omega)
    have hm : (n - ((1 : Nat) : Int)).toNat < (n - 0).toNat := by omega
    have st : ∀ d : Int, -(2 * pi) ≤ d → d ≤ 2 * pi → ((1 : Nat) : Int) = ((1 : Nat) : Int) ∧ (1 : Nat) = 1 ∧ ((1 : Nat) : Int) ≤ n ∧ 6 ≤ n ∧ n ≤ 12 ∧ 4 ≤ pi ∧ pi ≤ 1000 ∧ [[AV.int .i64 4]] = s_rep 1 4 ∧ ∃ dv0, [[AV.int .i64 d]] = irow .i64 dv0 ∧ s_devs pi 1 dv0 := fun d d1 d2 =>
      ⟨rfl, rfl, by omega, n1, n2, p1, p2, rfl, [d], rfl, rfl, fun x hx => by rw [List.mem_singleton.1 hx]; exact ⟨d1, d2⟩⟩
    refine to (nfMkB1 ..) (br_intro (fun c => br_intro (fun c1 => ?_) fun c1 => ?_) fun c => absurd (of_decide_eq_false c) (by omega))
    · have c1 := of_decide_eq_true c1
      rw [w1, w4, chk_iff, chk_iff]
      have hr := rem_lt (((ns.getD (Int.toNat 0) []).getD 0 AV.gone).toI) (show 0 < 4 * pi + 1 by omega)
      refine ⟨⟨by omega, c1⟩, ⟨by omega, by omega⟩, hm, st _ ?_ ?_, hq⟩
      all_goals rw [wr (x := 2 * pi) (by omega) (by omega)]
      all_goals first | exact dv_lo hr.1 hr.2 p2 p1 | exact dv_hi hr.1 hr.2 p2 p1
    · rw [w1]
      exact ⟨hm, st 0 (by omega) (by omega), hq⟩
  · rename_i m m2 sts dvs
    obtain ⟨⟨h0, e2, h1, n1, n2, p1, p2, hs, dv0, hd, hdv⟩, hq⟩ := hl
    subst h0; subst e2; subst hs; subst hd
    have w1 : IntKind.i64.wrap ((m2 : Int) + 1) = ((m2 + 1 : Nat) : Int) := wr (by omega) (by omega)
    have w4 : IntKind.i64.wrap (IntKind.i64.wrap (4 * pi) + 1) = 4 * pi + 1 := by rw [wr (x := 4 * pi) (by omega) (by omega)]; exact wr (by omega) (by omega)
    have hm : (m2 : Int) < n → (n - ((m2 + 1 : Nat) : Int)).toNat < (n - m2).toNat := fun _ => by omega
    have dl : (irow .i64 dv0).length = m2 := by rw [← hdv.1]; simp [irow]
    have st : ∀ d : Int, (m2 : Int) < n → -(2 * pi) ≤ d → d ≤ 2 * pi → ((m2 + 1 : Nat) : Int) = ((m2 + 1 : Nat) : Int) ∧ m2 + 1 = m2 + 1 ∧ ((m2 + 1 : Nat) : Int) ≤ n ∧ 6 ≤ n ∧ n ≤ 12 ∧ 4 ≤ pi ∧ pi ≤ 1000 ∧ s_rep m2 4 ++ [[AV.int .i64 4]] = s_rep (m2 + 1) 4 ∧ ∃ dv1, irow .i64 dv0 ++ [[AV.int .i64 d]] = irow .i64 dv1 ∧ s_devs pi (m2 + 1) dv1 := fun d hc d1 d2 =>
      ⟨rfl, rfl, by omega, n1, n2, p1, p2, by unfold s_rep; rw [List.replicate_succ'], dv0 ++ [d], by simp [irow], by simp [hdv.1], fun x hx => by
        rcases List.mem_append.1 hx with hx | hx
        · exact hdv.2 x hx
        · rw [List.mem_singleton.1 hx]; exact ⟨d1, d2⟩⟩
    refine to (nfMkB2 ..) (br_intro (fun c => br_intro (fun c1 => ?_) fun c1 => ?_) fun c => hq m2 dv0 (by have := of_decide_eq_false c; omega) hdv)
    · have c := of_decide_eq_true c
      have c1 := of_decide_eq_true c1
      have hr := rem_lt (((ns.getD (Int.toNat m2) []).getD 0 AV.gone).toI) (show 0 < 4 * pi + 1 by omega)
      rw [w1, w4]
      simp only [chk_iff, rep_len, dl]
      refine ⟨⟨by omega, c1⟩, ⟨by omega, by omega⟩, trivial, by omega, by omega, trivial, by omega, by omega, hm c, st _ c ?_ ?_, hq⟩
      all_goals rw [wr (x := 2 * pi) (by omega) (by omega)]
      all_goals first | exact dv_lo hr.1 hr.2 p2 p1 | exact dv_hi hr.1 hr.2 p2 p1
    · have c := of_decide_eq_true c
      rw [w1]
      simp only [chk_iff, rep_len, dl]
      exact ⟨trivial, by omega, by omega, trivial, by omega, by omega, hm c, st 0 c (by omega) (by omega), hq⟩
  · rename_i ms ss
    obtain ⟨⟨h0, n1, n2, p1, p2⟩, hq⟩ := hyp_iff.1 hl
    subst h0
    have w1 : IntKind.i64.wrap (0 + 1) = ((1 : Nat) : Int) := wr (by omega) (by omega)
    have w4 : IntKind.i64.wrap (IntKind.i64.wrap (4 * pi) + 1) = 4 * pi + 1 := by rw [wr (x := 4 * pi) (by omega) (by omega)]; exact wr (by omega) (by omega)
    have hm : (n - ((1 : Nat) : Int)).toNat < (n - 0).toNat := by omega
    have st : ∀ d : Int, -(2 * pi) ≤ d → d ≤ 2 * pi → ((1 : Nat) : Int) = ((1 : Nat) : Int) ∧ (1 : Nat) = 1 ∧ ((1 : Nat) : Int) ≤ n ∧ 6 ≤ n ∧ n ≤ 12 ∧ 4 ≤ pi ∧ pi ≤ 1000 ∧ [[AV.int .i64 4]] = s_rep 1 4 ∧ ∃ dv0, [[AV.int .i64 d]] = irow .i64 dv0 ∧ s_devs pi 1 dv0 := fun d d1 d2 =>
      ⟨rfl, rfl, by omega, n1, n2, p1, p2, rfl, [d], rfl, rfl, fun x hx => by rw [List.mem_singleton.1 hx]; exact ⟨d1, d2⟩⟩
    refine to (nfMkB3 ..) (br_intro (fun c => br_intro (fun c1 => ?_) fun c1 => ?_) fun c => absurd (of_decide_eq_false c) (by omega))
    · have c1 := of_decide_eq_true c1
      rw [w1, w4, chk_iff, chk_iff]
      have hr := rem_lt (((ns.getD (Int.toNat 0) []).getD 0 AV.gone).toI) (show 0 < 4 * pi + 1 by omega)
      refine ⟨⟨by omega, c1⟩, ⟨by omega, by omega⟩, hm, st _ ?_ ?_, hq⟩
      all_goals rw [wr (x := 2 * pi) (by omega) (by omega)]
      all_goals first | exact dv_lo hr.1 hr.2 p2 p1 | exact dv_hi hr.1 hr.2 p2 p1
    · rw [w1]
      exact ⟨hm, st 0 (by omega) (by omega), hq⟩
  · rename_i ms m m2 ss sts dvs
    obtain ⟨⟨h0, e2, h1, n1, n2, p1, p2, hs, dv0, hd, hdv⟩, hq⟩ := hl
    subst h0; subst e2; subst hs; subst hd
    have w1 : IntKind.i64.wrap ((m2 : Int) + 1) = ((m2 + 1 : Nat) : Int) := wr (by omega) (by omega)
    have w4 : IntKind.i64.wrap (IntKind.i64.wrap (4 * pi) + 1) = 4 * pi + 1 := by rw [wr (x := 4 * pi) (by omega) (by omega)]; exact wr (by omega) (by omega)
    have hm : (m2 : Int) < n → (n - ((m2 + 1 : Nat) : Int)).toNat < (n - m2).toNat := fun _ => by omega
    have dl : (irow .i64 dv0).length = m2 := by rw [← hdv.1]; simp [irow]
    have st : ∀ d : Int, (m2 : Int) < n → -(2 * pi) ≤ d → d ≤ 2 * pi → ((m2 + 1 : Nat) : Int) = ((m2 + 1 : Nat) : Int) ∧ m2 + 1 = m2 + 1 ∧ ((m2 + 1 : Nat) : Int) ≤ n ∧ 6 ≤ n ∧ n ≤ 12 ∧ 4 ≤ pi ∧ pi ≤ 1000 ∧ s_rep m2 4 ++ [[AV.int .i64 4]] = s_rep (m2 + 1) 4 ∧ ∃ dv1, irow .i64 dv0 ++ [[AV.int .i64 d]] = irow .i64 dv1 ∧ s_devs pi (m2 + 1) dv1 := fun d hc d1 d2 =>
      ⟨rfl, rfl, by omega, n1, n2, p1, p2, by unfold s_rep; rw [List.replicate_succ'], dv0 ++ [d], by simp [irow], by simp [hdv.1], fun x hx => by
        rcases List.mem_append.1 hx with hx | hx
        · exact hdv.2 x hx
        · rw [List.mem_singleton.1 hx]; exact ⟨d1, d2⟩⟩
    refine to (nfMkB4 ..) (br_intro (fun c => br_intro (fun c1 => ?_) fun c1 => ?_) fun c => hq m2 dv0 (by have := of_decide_eq_false c; omega) hdv)
    · have c := of_decide_eq_true c
      have c1 := of_decide_eq_true c1
      have hr := rem_lt (((ns.getD (Int.toNat m2) []).getD 0 AV.gone).toI) (show 0 < 4 * pi + 1 by omega)
      rw [w1, w4]
      simp only [chk_iff, rep_len, dl]
      refine ⟨⟨by omega, c1⟩, ⟨by omega, by omega⟩, trivial, by omega, by omega, trivial, by omega, by omega, hm c, st _ c ?_ ?_, hq⟩
      all_goals rw [wr (x := 2 * pi) (by omega) (by omega)]
      all_goals first | exact dv_lo hr.1 hr.2 p2 p1 | exact dv_hi hr.1 hr.2 p2 p1
    · have c := of_decide_eq_true c
      rw [w1]
      simp only [chk_iff, rep_len, dl]
      exact ⟨trivial, by omega, by omega, trivial, by omega, by omega, hm c, st 0 c (by omega) (by omega), hq⟩
  · exact hl.elim
theorem okY2L : OkSp Tryz.prog H0 Y2L := ⟨okY2o.fn, okLMkA, okLMkB, trivial⟩
theorem okMake9 : OkS Tryz.prog H0 9 sMake9 := by
  intro args h Q hq
  unfold sMake9 at hq
  split at hq
  · rename_i n0 pi0 e0 g0 fi0 nl0 ps0 fk fa ff ft nl1 acts nl2 ds round slot up k r sl pk pv nl3 ec nl4 ns
    refine in_ok (S := Y2L) (U := 6) (k := 6) okY2L (to (nfMake9 ..) ?_)
    intro n pi e g fi nl qs hmd
    have n1 := hmd.1
    have n2 := hmd.2.1
    have hp := madeR hmd
    have hql : qs.length ≤ 3 := by unfold s_made at hmd; omega
    have hqb : ∀ r ∈ irow .i64 qs, ∃ p : Int, r = [.int .i64 p] ∧ -1 ≤ p ∧ p < n := fun r hr => by
      obtain ⟨p, hp, rfl⟩ := List.mem_map.1 hr
      have := hmd.2.2.2.2.2.2.2.2.2.2.2 p hp
      exact ⟨p, rfl, this⟩
    refine hyp_iff.2 ⟨⟨n1, n2⟩, fun k' a' f' t' nl1' nl2' acts' ds' hf => ?_⟩
    have hf2 : 0 ≤ f' ∧ f' < 60 ∧ f' ≤ t' ∧ t' < f' + 60 := by unfold s_fok at hf; omega
    have hlen : (List.map (fun n => [AV.int IntKind.i64 n]) qs).length = qs.length := List.length_map ..
    have wn : IntKind.i64.wrap (n + (qs.length : Int)) = n + qs.length := wr (by omega) (by omega)
    have wt : IntKind.i64.wrap (t' - f') = t' - f' := wr (by omega) (by omega)
    have hs := rem_lt slot (show 0 < n + (qs.length : Int) by omega)
    have h130 := rem_lt round (show (0 : Int) < 130 by omega)
    rw [hlen, wn, wt, chk_iff]
    have fin : ∀ (ro dir : Int), 0 ≤ ro → ro ≤ 130 → dir = (if up then 1 else -1) → ∀ (m : Nat) (dv : List Int), (m : Int) = n → s_devs pi m dv → _ := fun ro dir a1 a2 a3 m dv a4 a5 =>
      hq n pi e g fi nl qs k' a' f' t' nl1' nl2' acts' ds' ro (s_rem slot (n + qs.length)) dir m dv ⟨hmd, hf, a1, a2, hs.1, hs.2, a3, a4, a5⟩
    refine ⟨⟨by omega, by omega⟩, br_intro (fun u => br_intro (fun c => ?_) fun c => ?_) fun u => br_intro (fun c => ?_) fun c => ?_⟩
    · have c := of_decide_eq_true c
      have hr := rem_lt round (show 0 < t' - f' by omega)
      have u : up = false := by simpa using u
      rw [wr (x := f' + s_rem round (t' - f')) (by omega) (by omega), chk_iff]
      exact ⟨⟨by omega, by omega⟩, hyp_iff.2 ⟨⟨n1, n2, hql, hqb⟩, fun nlo os hos => hyp_iff.2 ⟨⟨rfl, hos, n1, n2, hql⟩, hyp_iff.2 ⟨⟨rfl, n1, n2, hp⟩, fun m dv a b => (fin _ _ (by omega) (by omega) (by rw [u]; rfl) m dv a b).1⟩, fun rows r1 r2 => hyp_iff.2 ⟨⟨rfl, n1, n2, hp⟩, fun m dv a b => (fin _ _ (by omega) (by omega) (by rw [u]; rfl) m dv a b).2 rows r1 r2⟩⟩⟩⟩
    · have u : up = false := by simpa using u
      exact hyp_iff.2 ⟨⟨n1, n2, hql, hqb⟩, fun nlo os hos => hyp_iff.2 ⟨⟨rfl, hos, n1, n2, hql⟩, hyp_iff.2 ⟨⟨rfl, n1, n2, hp⟩, fun m dv a b => (fin _ _ (by omega) (by omega) (by rw [u]; rfl) m dv a b).1⟩, fun rows r1 r2 => hyp_iff.2 ⟨⟨rfl, n1, n2, hp⟩, fun m dv a b => (fin _ _ (by omega) (by omega) (by rw [u]; rfl) m dv a b).2 rows r1 r2⟩⟩⟩
    · have c := of_decide_eq_true c
      have hr := rem_lt round (show 0 < t' - f' by omega)
      have u : up = true := by simpa using u
      rw [wr (x := f' + s_rem round (t' - f')) (by omega) (by omega), chk_iff]
      exact ⟨⟨by omega, by omega⟩, hyp_iff.2 ⟨⟨n1, n2, hql, hqb⟩, fun nlo os hos => hyp_iff.2 ⟨⟨rfl, hos, n1, n2, hql⟩, hyp_iff.2 ⟨⟨rfl, n1, n2, hp⟩, fun m dv a b => (fin _ _ (by omega) (by omega) (by rw [u]; rfl) m dv a b).1⟩, fun rows r1 r2 => hyp_iff.2 ⟨⟨rfl, n1, n2, hp⟩, fun m dv a b => (fin _ _ (by omega) (by omega) (by rw [u]; rfl) m dv a b).2 rows r1 r2⟩⟩⟩⟩
    · have u : up = true := by simpa using u
      exact hyp_iff.2 ⟨⟨n1, n2, hql, hqb⟩, fun nlo os hos => hyp_iff.2 ⟨⟨rfl, hos, n1, n2, hql⟩, hyp_iff.2 ⟨⟨rfl, n1, n2, hp⟩, fun m dv a b => (fin _ _ (by omega) (by omega) (by rw [u]; rfl) m dv a b).1⟩, fun rows r1 r2 => hyp_iff.2 ⟨⟨rfl, n1, n2, hp⟩, fun m dv a b => (fin _ _ (by omega) (by omega) (by rw [u]; rfl) m dv a b).2 rows r1 r2⟩⟩⟩
  · exact hq.elim
end Go.Proofs.YtiemjcchlfbglaaGreatE
/- Is a node of a case right? -/
namespace Go.Proofs.YtiemjcchlfbglaaGreatE
open Go
set_option linter.unusedVariables false

def sRt : SW := fun args h Q => match args, h with
  | [.agg [.int .i64 n, .int .i64 pi, .int .i64 e, .int .i64 g, .int .i64 fi, .row nl [.int .i64] ps, .int .i64 fk, .int .i64 fa, .int .i64 ff, .int .i64 ft, .row nl1 [.int .i64, .int .i64, .str] acts, .row nl2 [.int .i64] ds, .int .i64 ro, .int .i64 sl, .int .i64 dir, .row b1 [.str] ss, .row b2 [.int .i64] sts, .row b3 [.int .i64] dvs], .int .i64 i], [] => ∀ b : Bool, b = s_right fk fa ft ro i → Q (.bool b, [])
  | _, _ => False
def Y3 : Sp := ⟨(16, sRt) :: (9, sMake9) :: Y1.fn, []⟩
end Go.Proofs.YtiemjcchlfbglaaGreatE
/- What path mode says of functions, printed by a program of this session; the kernel holds each. -/
namespace Go.Proofs.YtiemjcchlfbglaaGreatE
open Go
set_option maxRecDepth 100000
set_option linter.unusedVariables false
theorem nfRt (n pi e g fi fk fa ff ft ro sl dir i : Int) (nl nl1 nl2 b1 b2 b3 : Bool) (ps acts ds ss sts dvs : List (List AV)) (Q : AV × List AObj → Prop) : inlW Tryz.prog H0 Y1 6 (InO Tryz.prog H0 Y1 6 6) 16 [.agg [.int .i64 n, .int .i64 pi, .int .i64 e, .int .i64 g, .int .i64 fi, .row nl [.int .i64] ps, .int .i64 fk, .int .i64 fa, .int .i64 ff, .int .i64 ft, .row nl1 [.int .i64, .int .i64, .str] acts, .row nl2 [.int .i64] ds, .int .i64 ro, .int .i64 sl, .int .i64 dir, .row b1 [.str] ss, .row b2 [.int .i64] sts, .row b3 [.int .i64] dvs], .int .i64 i] [] Q = (
br (fk != (1 : Int))
 (Q ((AV.bool true, [])))
 (br (fa != i)
  (Q ((AV.bool true, [])))
  (Q ((AV.bool (decide (ro ≥ ft)), []))))) := by kernel_rfl
end Go.Proofs.YtiemjcchlfbglaaGreatE
/- Is a node of a case right? The spec holds; what reaches a node. -/
namespace Go.Proofs.YtiemjcchlfbglaaGreatE
open Go
set_option linter.unusedVariables false
set_option linter.unusedSimpArgs false
set_option maxRecDepth 100000

theorem rt_form {fk fa ft ro i : Int} {X : Bool → Prop} (h : ∀ b : Bool, b = s_right fk fa ft ro i → X b) : br (fk != 1) (X true) (br (fa != i) (X true) (X (decide (ro ≥ ft)))) := by
  unfold s_right at h
  refine br_intro (fun c => h _ ?_) fun c => br_intro (fun c2 => h _ ?_) fun c2 => h _ ?_
  · have c : ¬ fk = 1 := by simpa using c
    simp [c]
  · have c2 : ¬ i = fa := by intro hh; simp [hh] at c2
    simp [c2]
  · have c : fk = 1 := by simpa using c
    have c2 : fa = i := by simpa using c2
    simp [c, c2]
theorem okRt : OkS Tryz.prog H0 16 sRt := by
  intro args h Q hq
  unfold sRt at hq
  split at hq
  · exact in_ok (S := Y1) (U := 6) (k := 6) okY1 (to (nfRt ..) (rt_form (X := fun b => Q (.bool b, [])) hq))
  · exact hq.elim
theorem okY3 : OkSp Tryz.prog H0 Y3 := ⟨⟨okRt, okMake9, okY1.fn⟩, trivial⟩
section
variable {P : RG} {o : Int} {a : ByteArray} {M : Nat} {hit : Int → Int → Bool} {fr to_ ro : Int}
/-- What is not hit on its way comes as it was sent. -/
theorem reach (hok : gOk P o false M) (hsl : P.sl < P.n) (hS : ∀ k, s_int P.sts (gN P o k) ≠ 0) (hg : ∀ x, gGrd P o x = x) (hE : gEm P hit fr to_ ro) (ha : a.size ≤ 1000000) (hc : s_cl a) : ∀ m : Nat,
    (∀ k : Nat, k + 1 ≤ m → hit (gN P o k) (gN P o (k + 1)) = false ∨ to_ ≤ ro) → (∀ k : Nat, k + 2 ≤ m → hit (gN P o k) (gN P o (k + 2)) = false ∨ to_ ≤ ro) →
    (gO P o false a ⟨#[]⟩ m).1 = a ∧ (0 < m → (gO P o false a ⟨#[]⟩ m).2 = a)
  | 0, _, _ => ⟨rfl, fun h => by omega⟩
  | 1, h1, _ => by
    refine ⟨?_, fun _ => rfl⟩
    show gOutX P o false a _ 0 = a
    rw [gOut_one (hS 1) hsl]
    unfold gDirX
    rw [if_pos rfl, hg, gC_pass hok hE ha (h1 0 (by omega)), clean_of hc]
  | m + 2, h1, h2 => by
    have ih := reach hok hsl hS hg hE ha hc (m + 1) (fun k hk => h1 k (by omega)) (fun k hk => h2 k (by omega))
    refine ⟨?_, fun _ => ih.1⟩
    show gOutX P o false (gO P o false a ⟨#[]⟩ (m + 1)).1 (gO P o false a ⟨#[]⟩ (m + 1)).2 (m + 1) = a
    rw [ih.1, ih.2 (by omega), gOut_com (hS (m + 2)) (.inl (by omega))]
    unfold gDirX gSkipX
    rw [if_neg (by omega), if_neg (by omega), gC_pass hok hE ha (h1 (m + 1) (by omega)), Nat.add_sub_cancel, gC_pass hok hE ha (h2 m (by omega)), clean_of hc, com_self]
end
/- Links. -/
theorem remd {n a d : Int} (h0 : 0 ≤ a) (h1 : a < n) (hd : 0 ≤ d) (hd2 : d ≤ n) : s_rem (a + d) n = if a + d < n then a + d else a + d - n := by
  have := rem_c (show 0 < n by omega) (a + d)
  split
  · exact this.1 (by omega) (by omega)
  · exact this.2.2 (by omega) (by omega)
/-- Which link is between two nodes one, or two, away. -/
theorem link1 {n a b : Int} (hn : 6 ≤ n) (h0 : 0 ≤ a) (h1 : a < n) (hb : b = if a + 1 < n then a + 1 else a + 1 - n) : s_linkO n a b = some a ∧ s_linkO n b a = some a := by
  unfold s_linkO
  have e1 := remd h0 h1 (show (0 : Int) ≤ 1 by omega) (by omega)
  have b0 : 0 ≤ b ∧ b < n := by split at hb <;> omega
  have e2 := remd b0.1 b0.2 (show (0 : Int) ≤ 1 by omega) (by omega)
  constructor
  · rw [if_neg (by omega), if_pos (by rw [e1]; exact hb.symm)]
  · rw [if_neg (by omega), if_neg (by rw [e2]; split at hb <;> split <;> omega), if_pos (by rw [e1]; exact hb.symm)]
theorem link2 {n a b : Int} (hn : 6 ≤ n) (h0 : 0 ≤ a) (h1 : a < n) (hb : b = if a + 2 < n then a + 2 else a + 2 - n) : s_linkO n a b = some (a + n) ∧ s_linkO n b a = some (a + n) := by
  unfold s_linkO
  have b0 : 0 ≤ b ∧ b < n := by split at hb <;> omega
  have e1 := remd h0 h1 (show (0 : Int) ≤ 1 by omega) (by omega)
  have e2 := remd b0.1 b0.2 (show (0 : Int) ≤ 1 by omega) (by omega)
  have e3 := remd h0 h1 (show (0 : Int) ≤ 2 by omega) (by omega)
  have e4 := remd b0.1 b0.2 (show (0 : Int) ≤ 2 by omega) (by omega)
  constructor
  · rw [if_neg (by omega), if_neg (by rw [e1]; split at hb <;> split <;> omega), if_neg (by rw [e2]; split at hb <;> split <;> omega), if_pos (by rw [e3]; exact hb.symm)]
  · rw [if_neg (by omega), if_neg (by rw [e2]; split at hb <;> split <;> omega), if_neg (by rw [e1]; split at hb <;> split <;> omega), if_neg (by rw [e4]; split at hb <;> split <;> omega), if_pos (by rw [e3]; exact hb.symm)]
theorem hit_link {n at_ fm dst v : Int} (h : s_linkO n fm dst = some v) : s_hit n 2 at_ fm dst = (v == at_) := by
  unfold s_hit s_linkB s_linkN
  rw [h]
  simp
section
variable {n o : Int}
theorem ndl_up1 (hn : 6 ≤ n) (h0 : 0 ≤ o) (h1 : o < n) {k : Nat} (hk : (k : Int) + 1 < n) : s_linkO n (s_node n o 1 k) (s_node n o 1 (k + 1)) = some (s_node n o 1 k) := by
  have hl := node_lt (n := n) (o := o) (dir := 1) (by omega) k
  refine (link1 hn hl.1 hl.2 ?_).1
  rw [node_up h0 h1 (by omega), node_up h0 h1 (by omega)]
  split <;> split <;> split <;> omega
theorem ndl_up2 (hn : 6 ≤ n) (h0 : 0 ≤ o) (h1 : o < n) {k : Nat} (hk : (k : Int) + 2 < n) : s_linkO n (s_node n o 1 k) (s_node n o 1 (k + 2)) = some (s_node n o 1 k + n) := by
  have hl := node_lt (n := n) (o := o) (dir := 1) (by omega) k
  refine (link2 hn hl.1 hl.2 ?_).1
  rw [node_up h0 h1 (by omega), node_up h0 h1 (by omega)]
  split <;> split <;> split <;> omega
theorem ndl_dn1 (hn : 6 ≤ n) (h0 : 0 ≤ o) (h1 : o < n) {k : Nat} (hk : (k : Int) + 1 < n) : s_linkO n (s_node n o (-1) k) (s_node n o (-1) (k + 1)) = some (s_node n o (-1) (k + 1)) := by
  have hl := node_lt (n := n) (o := o) (dir := -1) (by omega) (k + 1)
  refine (link1 hn hl.1 hl.2 ?_).2
  rw [node_dn h0 h1 (by omega), node_dn h0 h1 (by omega)]
  split <;> split <;> split <;> omega
theorem ndl_dn2 (hn : 6 ≤ n) (h0 : 0 ≤ o) (h1 : o < n) {k : Nat} (hk : (k : Int) + 2 < n) : s_linkO n (s_node n o (-1) k) (s_node n o (-1) (k + 2)) = some (s_node n o (-1) (k + 2) + n) := by
  have hl := node_lt (n := n) (o := o) (dir := -1) (by omega) (k + 2)
  refine (link2 hn hl.1 hl.2 ?_).2
  rw [node_dn h0 h1 (by omega), node_dn h0 h1 (by omega)]
  split <;> split <;> split <;> omega
end
end Go.Proofs.YtiemjcchlfbglaaGreatE
/- A run with one owner, all active and in step. -/
namespace Go.Proofs.YtiemjcchlfbglaaGreatE
open Go
set_option linter.unusedVariables false
set_option linter.unusedSimpArgs false
set_option maxRecDepth 100000

theorem irow_int {pi : Int} {m : Nat} {dv : List Int} (h : s_devs pi m dv) {i : Int} (h0 : 0 ≤ i) (h1 : i < m) : -(2 * pi) ≤ s_int (irow .i64 dv) i ∧ s_int (irow .i64 dv) i ≤ 2 * pi := by
  have hl : i.toNat < dv.length := by rw [h.1]; omega
  have : s_int (irow .i64 dv) i = dv[i.toNat] := by
    have e : (List.map (fun n => [AV.int IntKind.i64 n]) dv).getD i.toNat [] = [AV.int IntKind.i64 dv[i.toNat]] := by
      rw [List.getD_eq_getElem?_getD, List.getElem?_map, List.getElem?_eq_getElem hl]
      rfl
    unfold s_int irow
    rw [e]
    rfl
  rw [this]
  exact h.2 _ (List.getElem_mem hl)
theorem irow_take {pi : Int} {m : Nat} {dv : List Int} (h : s_devs pi m dv) : List.take m (List.drop 0 (List.map (fun n => [AV.int IntKind.i64 n]) dv)) = irow .i64 dv := by
  rw [List.drop_zero, List.take_of_length_le (by rw [List.length_map, h.1]; exact Nat.le_refl _)]
  rfl
theorem devs_len {pi : Int} {m : Nat} {dv : List Int} (h : s_devs pi m dv) : (List.map (fun n => [AV.int IntKind.i64 n]) dv).length = m := by rw [List.length_map, h.1]
theorem run_one {n dir sl pi : Int} {sts dvs : List (List AV)} {em : Int → Int → ByteArray → ByteArray} {z : ByteArray} {rows : List (List AV)} (hn : 6 ≤ n) (hn2 : n ≤ 12) (hd : dir = 1 ∨ dir = -1) (hs : 0 ≤ sl ∧ sl < n)
    (hS : ∀ i, 0 ≤ i → i < n → s_int sts i = 4) (hD : ∀ i, 0 ≤ i → i < n → -(2 * pi) ≤ s_int dvs i ∧ s_int dvs i ≤ 2 * pi)
    (hr : rows = s_gIterS ⟨n, dir, sl, pi, s_wayL n sl dir (n - 1).toNat, sts, dvs, em⟩ (s_gI1 n sl z) (s_gI2 n sl) 0 (n - 1).toNat) :
    ∃ P : RG, P.n = n ∧ P.dir = dir ∧ P.sl = sl ∧ P.em = em ∧ gOk P sl false (n - 1).toNat ∧ (∀ k, gN P sl k = s_node n sl dir k) ∧ (∀ k, s_int P.sts (gN P sl k) ≠ 0) ∧ (∀ x, gGrd P sl x = x) ∧ rows.length = n.toNat ∧
      ∀ i : Int, 0 ≤ i → i < n → rows.getD i.toNat [] = gSide P sl false z ⟨#[]⟩ (s_far n sl dir i).toNat := by
  obtain ⟨P, hP⟩ : ∃ P : RG, P = ⟨n, dir, sl, pi, s_wayL n sl dir (n - 1).toNat, sts, dvs, em⟩ := ⟨_, rfl⟩
  have hok : gOk P sl false (n - 1).toNat := by
    rw [hP]
    exact ⟨hn, hn2, hd, hs.1, hs.2, rfl, by show (((n - 1).toNat : Nat) : Int) < n; omega, fun h => by cases h⟩
  have Pn : P.n = n := by rw [hP]
  have Pd : P.dir = dir := by rw [hP]
  have hN : ∀ k, gN P sl k = s_node n sl dir k := fun k => by show s_node P.n sl P.dir k = _; rw [Pn, Pd]
  have hI1 : s_gI1 n sl z = mG P sl false z ⟨#[]⟩ 0 := by
    have := gI1_eq (a := z) (b := ⟨#[]⟩) hok
    rw [Pn] at this
    exact this
  have hI2 : s_gI2 n sl = mGd P sl false 0 := by
    have := gI2_eq hok
    rw [Pn] at this
    exact this
  rw [← hP] at hr
  refine ⟨P, Pn, Pd, by rw [hP], by rw [hP], hok, hN, fun k => ?_, fun x => ?_, ?_, fun i i0 i1 => ?_⟩
  · have hl := g_lt hok k
    have : s_int P.sts (gN P sl k) = 4 := by
      rw [show P.sts = sts by rw [hP]]
      exact hS _ hl.1 (by omega)
    omega
  · have hl := g_lt hok 1
    unfold gGrd
    refine guard_in ?_
    rw [show P.dvs = dvs by rw [hP], show P.pi = pi by rw [hP]]
    exact hD _ hl.1 (by omega)
  · rw [hr, g_len (a := z) (b := ⟨#[]⟩) (d1 := s_gI2 n sl) hok hI1, Pn]
  · have hf := far_lt (n := n) (o := sl) (dir := dir) (by omega) i
    have := g_get hok hI1 hI2 (m := (s_far n sl dir i).toNat) (.inl (by omega))
    rw [hN, node_far hd hs.1 hs.2 i0 i1] at this
    rw [hr, this]
/-- What is not hit on its way comes as it was sent. -/
theorem run_reach {n dir sl pi : Int} {sts dvs : List (List AV)} {em : Int → Int → ByteArray → ByteArray} {z : ByteArray} {rows : List (List AV)} (hn : 6 ≤ n) (hn2 : n ≤ 12) (hd : dir = 1 ∨ dir = -1) (hs : 0 ≤ sl ∧ sl < n)
    (hS : ∀ i, 0 ≤ i → i < n → s_int sts i = 4) (hD : ∀ i, 0 ≤ i → i < n → -(2 * pi) ≤ s_int dvs i ∧ s_int dvs i ≤ 2 * pi)
    (hr : rows = s_gIterS ⟨n, dir, sl, pi, s_wayL n sl dir (n - 1).toNat, sts, dvs, em⟩ (s_gI1 n sl z) (s_gI2 n sl) 0 (n - 1).toNat)
    {hit : Int → Int → Bool} {fr to_ ro : Int} (hE : ∀ (fm dst : Int) (base : ByteArray), 0 ≤ dst → dst ≤ 1000000 → base.size ≤ 1000000 → s_emitR (hit fm dst) fr to_ ro base (em fm dst base)) (hz : z.size ≤ 1000) (hc : s_clean z = z) :
    rows.length = n.toNat ∧ ∀ i : Int, 0 ≤ i → i < n → (∀ k : Nat, k + 1 ≤ (s_far n sl dir i).toNat → hit (s_node n sl dir k) (s_node n sl dir (k + 1)) = false ∨ to_ ≤ ro) → (∀ k : Nat, k + 2 ≤ (s_far n sl dir i).toNat → hit (s_node n sl dir k) (s_node n sl dir (k + 2)) = false ∨ to_ ≤ ro) →
      s_out2 (rows.getD i.toNat []) = z := by
  obtain ⟨P, Pn, Pd, Psl, Pe, hok, hN, hS', hg, hl, get⟩ := run_one hn hn2 hd hs hS hD hr
  have hE' : gEm P hit fr to_ ro := by unfold gEm; rw [Pe]; exact hE
  refine ⟨hl, fun i i0 i1 h1 h2 => ?_⟩
  have hf := far_lt (n := n) (o := sl) (dir := dir) (by omega) i
  rw [get i i0 i1, gSide_out hok (by omega)]
  exact (reach hok (by omega) hS' hg hE' (by omega) (cl_iff.2 hc) _ (fun k hk => by rw [hN, hN]; exact h1 k hk) (fun k hk => by rw [hN, hN]; exact h2 k hk)).1
/-- Both ways together. -/
theorem far_both {n sl i : Int} (hs : 0 ≤ sl ∧ sl < n) (i0 : 0 ≤ i) (i1 : i < n) (hne : i ≠ sl) : s_far n sl (-1) i = n - s_far n sl 1 i ∧ 0 < s_far n sl 1 i ∧ s_far n sl 1 i < n := by
  rw [far_up hs.1 hs.2 i0 i1, far_dn hs.1 hs.2 i0 i1]
  split <;> split <;> omega
theorem node_ne {n sl dir a : Int} (hd : dir = 1 ∨ dir = -1) (hs : 0 ≤ sl ∧ sl < n) {k : Nat} (hk : (k : Int) < n) (h : (k : Int) ≠ s_far n sl dir a) : s_node n sl dir k ≠ a := fun e => by
  have := far_node hd hs.1 hs.2 hk
  rw [e] at this
  exact h this.symm
theorem reaches {n sl k a t ro : Int} (hn : 6 ≤ n) (hs : 0 ≤ sl ∧ sl < n) (hk : 0 ≤ k ∧ k ≤ 2) (h1 : k = 1 → 0 ≤ a ∧ a < n) (h2 : k = 2 → 0 ≤ a ∧ a < 2 * n) (hrs : s_right k a t ro sl = true) {i : Int} (i0 : 0 ≤ i) (i1 : i < n) (hne : i ≠ sl) (hri : s_right k a t ro i = true) :
    ∃ dir : Int, (dir = 1 ∨ dir = -1) ∧ (∀ j : Nat, j + 1 ≤ (s_far n sl dir i).toNat → s_hit n k a (s_node n sl dir j) (s_node n sl dir (j + 1)) = false ∨ t ≤ ro) ∧ (∀ j : Nat, j + 2 ≤ (s_far n sl dir i).toNat → s_hit n k a (s_node n sl dir j) (s_node n sl dir (j + 2)) = false ∨ t ≤ ro) := by
  by_cases ht : t ≤ ro
  · exact ⟨1, .inl rfl, fun _ _ => .inr ht, fun _ _ => .inr ht⟩
  have hfb := far_both hs i0 i1 hne
  by_cases k1 : k = 1
  · subst k1
    have ha := h1 rfl
    have hsl : a ≠ sl := fun e => by unfold s_right at hrs; simp [e] at hrs; omega
    have hia : i ≠ a := fun e => by unfold s_right at hri; simp [e] at hri; omega
    have hfa := far_both hs ha.1 ha.2 hsl
    have hh : ∀ dir : Int, (dir = 1 ∨ dir = -1) → ∀ (j : Nat) (d : Int), (j : Int) < n → (j : Int) ≠ s_far n sl dir a → s_hit n 1 a (s_node n sl dir j) d = false := fun dir hd j d hj hja => by
      unfold s_hit
      rw [if_pos rfl]
      exact beq_eq_false_iff_ne.2 (node_ne hd hs hj hja)
    have hfne : s_far n sl 1 i ≠ s_far n sl 1 a := fun e => hia (by
      rw [← node_far (.inl rfl) hs.1 hs.2 i0 i1, e, node_far (.inl rfl) hs.1 hs.2 ha.1 ha.2])
    by_cases hlt : s_far n sl 1 i < s_far n sl 1 a
    · exact ⟨1, .inl rfl, fun j hj => .inl (hh 1 (.inl rfl) j _ (by omega) (by omega)), fun j hj => .inl (hh 1 (.inl rfl) j _ (by omega) (by omega))⟩
    · exact ⟨-1, .inr rfl, fun j hj => .inl (hh (-1) (.inr rfl) j _ (by omega) (by omega)), fun j hj => .inl (hh (-1) (.inr rfl) j _ (by omega) (by omega))⟩
  by_cases k2 : k = 2
  · subst k2
    have ha := h2 rfl
    by_cases hat : a < n
    · have hfa := far_lt (n := n) (o := sl) (dir := 1) (by omega) a
      by_cases hle : s_far n sl 1 i ≤ s_far n sl 1 a
      · refine ⟨1, .inl rfl, fun j hj => .inl ?_, fun j hj => .inl ?_⟩
        · rw [hit_link (ndl_up1 hn hs.1 hs.2 (by omega))]
          exact beq_eq_false_iff_ne.2 (node_ne (.inl rfl) hs (by omega) (by omega))
        · rw [hit_link (ndl_up2 hn hs.1 hs.2 (by omega))]
          have := node_lt (n := n) (o := sl) (dir := 1) (by omega) j
          exact beq_eq_false_iff_ne.2 (by omega)
      · have hfd : a = sl ∨ s_far n sl (-1) a = n - s_far n sl 1 a := by
          by_cases e : a = sl
          · exact .inl e
          · exact .inr (far_both hs ha.1 hat e).1
        have hfd0 : a = sl → s_far n sl (-1) a = 0 := fun e => by rw [e, far_dn hs.1 hs.2 hs.1 hs.2, if_pos (by omega)]; omega
        refine ⟨-1, .inr rfl, fun j hj => .inl ?_, fun j hj => .inl ?_⟩
        · rw [hit_link (ndl_dn1 hn hs.1 hs.2 (by omega))]
          refine beq_eq_false_iff_ne.2 (node_ne (.inr rfl) hs (by omega) ?_)
          rcases hfd with e | e
          · rw [hfd0 e]; omega
          · rw [e]; omega
        · rw [hit_link (ndl_dn2 hn hs.1 hs.2 (by omega))]
          have := node_lt (n := n) (o := sl) (dir := -1) (by omega) (j + 2)
          exact beq_eq_false_iff_ne.2 (by omega)
    · have hfa := far_lt (n := n) (o := sl) (dir := 1) (by omega) (a - n)
      by_cases hle : s_far n sl 1 i ≤ s_far n sl 1 (a - n) + 1
      · refine ⟨1, .inl rfl, fun j hj => .inl ?_, fun j hj => .inl ?_⟩
        · rw [hit_link (ndl_up1 hn hs.1 hs.2 (by omega))]
          have := node_lt (n := n) (o := sl) (dir := 1) (by omega) j
          exact beq_eq_false_iff_ne.2 (by omega)
        · rw [hit_link (ndl_up2 hn hs.1 hs.2 (by omega))]
          have := node_ne (a := a - n) (.inl rfl) hs (k := j) (by omega) (by omega)
          exact beq_eq_false_iff_ne.2 (by omega)
      · have hfd : a - n = sl ∨ s_far n sl (-1) (a - n) = n - s_far n sl 1 (a - n) := by
          by_cases e : a - n = sl
          · exact .inl e
          · exact .inr (far_both hs (by omega) (by omega) e).1
        have hfd0 : a - n = sl → s_far n sl (-1) (a - n) = 0 := fun e => by rw [e, far_dn hs.1 hs.2 hs.1 hs.2, if_pos (by omega)]; omega
        refine ⟨-1, .inr rfl, fun j hj => .inl ?_, fun j hj => .inl ?_⟩
        · rw [hit_link (ndl_dn1 hn hs.1 hs.2 (by omega))]
          have := node_lt (n := n) (o := sl) (dir := -1) (by omega) (j + 1)
          exact beq_eq_false_iff_ne.2 (by omega)
        · rw [hit_link (ndl_dn2 hn hs.1 hs.2 (by omega))]
          have : s_node n sl (-1) (j + 2) ≠ a - n := by
            refine node_ne (.inr rfl) hs (by omega) ?_
            rcases hfd with e | e
            · rw [hfd0 e]; omega
            · rw [e]; omega
          exact beq_eq_false_iff_ne.2 (by omega)
  · have hh : ∀ x y, s_hit n k a x y = false := fun x y => by
      unfold s_hit
      rw [if_neg k1, if_neg k2]
    exact ⟨1, .inl rfl, fun _ _ => .inl (hh _ _), fun _ _ => .inl (hh _ _)⟩
end Go.Proofs.YtiemjcchlfbglaaGreatE
