/- SpreadContained: its loop's spec. -/
import Derived.Test.YtiemjcchlfbglaaGreatBcO
import Derived.KernelRfl
namespace Go.Proofs.YtiemjcchlfbglaaGreatE
open Go
set_option linter.unusedVariables false

def s_outZ (rows : List (List AV)) (i : Int) : ByteArray := s_out2 (rows.getD i.toNat [])
def s_farZ (rows : List (List AV)) (i : Int) : Int := ((rows.getD i.toNat []).getD 3 AV.gone).toI
def lCon : LW := fun vals h Q => match vals, h with
  | [.ptr 0 0, .int .i64 kk, .row nw [.str, .str, .str, .int .i64] rows, .int .i64 i], [.box [.int .i64 n, .int .i64 pi, .int .i64 e, .int .i64 g, .int .i64 fi, .row nl [.int .i64] ps, .int .i64 fk, .int .i64 fa, .int .i64 ff, .int .i64 ft, .row nl3 [.int .i64, .int .i64, .str] acts, .row nl4 [.int .i64] ds, .int .i64 ro, .int .i64 sl, .int .i64 dir, .sl 1 0 1, .sl 2 0 m1, .sl 3 0 m2], .arr 0 9 [.str] [[.str z]], .arr 0 3 [.int .i64] sts, .arr 0 3 [.int .i64] dvs] =>
    Hyp (0 ≤ i ∧ i ≤ rows.length ∧ rows.length ≤ 12 ∧ m1 = sts.length ∧ m2 = dvs.length ∧ ∀ j : Int, 0 ≤ j → j < rows.length → s_right fk fa ft ro j = true → ¬ (fk = 2 ∧ fa = kk ∧ s_farZ rows j = 1) → s_front (s_outZ rows j) z) ∧ Q (.exit 0) [.ptr 0 0, .row nw [.str, .str, .str, .int .i64] rows] [.box [.int .i64 n, .int .i64 pi, .int .i64 e, .int .i64 g, .int .i64 fi, .row nl [.int .i64] ps, .int .i64 fk, .int .i64 fa, .int .i64 ff, .int .i64 ft, .row nl3 [.int .i64, .int .i64, .str] acts, .row nl4 [.int .i64] ds, .int .i64 ro, .int .i64 sl, .int .i64 dir, .sl 1 0 1, .sl 2 0 m1, .sl 3 0 m2], .arr 0 9 [.str] [[.str z]], .arr 0 3 [.int .i64] sts, .arr 0 3 [.int .i64] dvs]
  | _, _ => False
def Z1C : Sp := ⟨Z1.fn, [(4, 16, lCon)]⟩
end Go.Proofs.YtiemjcchlfbglaaGreatE
/- What path mode says of functions, printed by a program of this session; the kernel holds each. -/
namespace Go.Proofs.YtiemjcchlfbglaaGreatE
open Go
set_option maxRecDepth 100000
set_option linter.unusedVariables false
theorem nfCona (kk i n pi e g fi fk fa ff ft ro sl dir : Int) (nl nl3 nl4 nw : Bool) (ps acts ds rows sts dvs : List (List AV)) (m1 m2 : Nat) (z : ByteArray) (Q : Ex → List AV → List AObj → Prop) : lpBody Tryz.prog H0 Z1 6 6 4 16 [.ptr 0 0, .int .i64 kk, .row nw [.str, .str, .str, .int .i64] rows, .int .i64 i] [.box [.int .i64 n, .int .i64 pi, .int .i64 e, .int .i64 g, .int .i64 fi, .row nl [.int .i64] ps, .int .i64 fk, .int .i64 fa, .int .i64 ff, .int .i64 ft, .row nl3 [.int .i64, .int .i64, .str] acts, .row nl4 [.int .i64] ds, .int .i64 ro, .int .i64 sl, .int .i64 dir, .sl 1 0 1, .sl 2 0 m1, .sl 3 0 m2], .arr 0 9 [.str] [[.str z]], .arr 0 3 [.int .i64] sts, .arr 0 3 [.int .i64] dvs] Q = (
br (decide (i < (↑rows.length : Int)))
 (br (fk == (2 : Int))
  (br (fa == kk)
   (chk ((0 : Int) ≤ i ∧ i < (↑rows.length : Int)) (chk ((0 : Nat) + m1 ≤ sts.length) (chk ((0 : Nat) + m2 ≤ dvs.length) ((∀ (b106 : Bool),
   ((b106 = s_right fk fa ft ro i) →
   br (b106)
    (br (!((rows.getD i.toNat []).getD (3 : Nat) AV.gone).toI == (1 : Int))
     (chk ((0 : Int) ≤ i ∧ i < (↑rows.length : Int)) ((∀ (b111 : Bool),
     (∀ (x'112 : ByteArray),
     (∀ (y'113 : ByteArray),
     ((x'112 = ((rows.getD i.toNat []).getD (2 : Nat) AV.gone).toS) →
     ((y'113 = z) →
     ((s_front x'112 y'113 → b111 = true) →
     br (!b111)
      (Q (Ex.ret) ([AV.bool false]) ([]))
      (Q (Ex.nrm) ([AV.ptr (0 : Nat) (0 : Nat), AV.int IntKind.i64 kk, AV.row nw [K.str, K.str, K.str, K.int IntKind.i64] rows,
  AV.int IntKind.i64 (IntKind.i64.wrap (i + (1 : Int)))]) ([AObj.box
    [AV.int IntKind.i64 n, AV.int IntKind.i64 pi, AV.int IntKind.i64 e, AV.int IntKind.i64 g, AV.int IntKind.i64 fi,
      AV.row nl [K.int IntKind.i64] ps, AV.int IntKind.i64 fk, AV.int IntKind.i64 fa, AV.int IntKind.i64 ff,
      AV.int IntKind.i64 ft, AV.row nl3 [K.int IntKind.i64, K.int IntKind.i64, K.str] acts,
      AV.row nl4 [K.int IntKind.i64] ds, AV.int IntKind.i64 ro, AV.int IntKind.i64 sl, AV.int IntKind.i64 dir,
      AV.sl (1 : Nat) (0 : Nat) (1 : Nat), AV.sl (2 : Nat) (0 : Nat) m1, AV.sl (3 : Nat) (0 : Nat) m2],
  AObj.arr (0 : Nat) (9 : Nat) [K.str] [[AV.str z]], AObj.arr (0 : Nat) (3 : Nat) [K.int IntKind.i64] sts,
  AObj.arr (0 : Nat) (3 : Nat) [K.int IntKind.i64] dvs]))))))))))
     (Q (Ex.nrm) ([AV.ptr (0 : Nat) (0 : Nat), AV.int IntKind.i64 kk, AV.row nw [K.str, K.str, K.str, K.int IntKind.i64] rows,
  AV.int IntKind.i64 (IntKind.i64.wrap (i + (1 : Int)))]) ([AObj.box
    [AV.int IntKind.i64 n, AV.int IntKind.i64 pi, AV.int IntKind.i64 e, AV.int IntKind.i64 g, AV.int IntKind.i64 fi,
      AV.row nl [K.int IntKind.i64] ps, AV.int IntKind.i64 fk, AV.int IntKind.i64 fa, AV.int IntKind.i64 ff,
      AV.int IntKind.i64 ft, AV.row nl3 [K.int IntKind.i64, K.int IntKind.i64, K.str] acts,
      AV.row nl4 [K.int IntKind.i64] ds, AV.int IntKind.i64 ro, AV.int IntKind.i64 sl, AV.int IntKind.i64 dir,
      AV.sl (1 : Nat) (0 : Nat) (1 : Nat), AV.sl (2 : Nat) (0 : Nat) m1, AV.sl (3 : Nat) (0 : Nat) m2],
  AObj.arr (0 : Nat) (9 : Nat) [K.str] [[AV.str z]], AObj.arr (0 : Nat) (3 : Nat) [K.int IntKind.i64] sts,
  AObj.arr (0 : Nat) (3 : Nat) [K.int IntKind.i64] dvs])))
    (Q (Ex.nrm) ([AV.ptr (0 : Nat) (0 : Nat), AV.int IntKind.i64 kk, AV.row nw [K.str, K.str, K.str, K.int IntKind.i64] rows,
  AV.int IntKind.i64 (IntKind.i64.wrap (i + (1 : Int)))]) ([AObj.box
    [AV.int IntKind.i64 n, AV.int IntKind.i64 pi, AV.int IntKind.i64 e, AV.int IntKind.i64 g, AV.int IntKind.i64 fi,
      AV.row nl [K.int IntKind.i64] ps, AV.int IntKind.i64 fk, AV.int IntKind.i64 fa, AV.int IntKind.i64 ff,
      AV.int IntKind.i64 ft, AV.row nl3 [K.int IntKind.i64, K.int IntKind.i64, K.str] acts,
      AV.row nl4 [K.int IntKind.i64] ds, AV.int IntKind.i64 ro, AV.int IntKind.i64 sl, AV.int IntKind.i64 dir,
      AV.sl (1 : Nat) (0 : Nat) (1 : Nat), AV.sl (2 : Nat) (0 : Nat) m1, AV.sl (3 : Nat) (0 : Nat) m2],
  AObj.arr (0 : Nat) (9 : Nat) [K.str] [[AV.str z]], AObj.arr (0 : Nat) (3 : Nat) [K.int IntKind.i64] sts,
  AObj.arr (0 : Nat) (3 : Nat) [K.int IntKind.i64] dvs]))))))))
   (chk ((0 : Nat) + m1 ≤ sts.length) (chk ((0 : Nat) + m2 ≤ dvs.length) ((∀ (b105 : Bool),
   ((b105 = s_right fk fa ft ro i) →
   br (b105)
    (chk ((0 : Int) ≤ i ∧ i < (↑rows.length : Int)) ((∀ (b109 : Bool),
    (∀ (x'110 : ByteArray),
    (∀ (y'111 : ByteArray),
    ((x'110 = ((rows.getD i.toNat []).getD (2 : Nat) AV.gone).toS) →
    ((y'111 = z) →
    ((s_front x'110 y'111 → b109 = true) →
    br (!b109)
     (Q (Ex.ret) ([AV.bool false]) ([]))
     (Q (Ex.nrm) ([AV.ptr (0 : Nat) (0 : Nat), AV.int IntKind.i64 kk, AV.row nw [K.str, K.str, K.str, K.int IntKind.i64] rows,
  AV.int IntKind.i64 (IntKind.i64.wrap (i + (1 : Int)))]) ([AObj.box
    [AV.int IntKind.i64 n, AV.int IntKind.i64 pi, AV.int IntKind.i64 e, AV.int IntKind.i64 g, AV.int IntKind.i64 fi,
      AV.row nl [K.int IntKind.i64] ps, AV.int IntKind.i64 fk, AV.int IntKind.i64 fa, AV.int IntKind.i64 ff,
      AV.int IntKind.i64 ft, AV.row nl3 [K.int IntKind.i64, K.int IntKind.i64, K.str] acts,
      AV.row nl4 [K.int IntKind.i64] ds, AV.int IntKind.i64 ro, AV.int IntKind.i64 sl, AV.int IntKind.i64 dir,
      AV.sl (1 : Nat) (0 : Nat) (1 : Nat), AV.sl (2 : Nat) (0 : Nat) m1, AV.sl (3 : Nat) (0 : Nat) m2],
  AObj.arr (0 : Nat) (9 : Nat) [K.str] [[AV.str z]], AObj.arr (0 : Nat) (3 : Nat) [K.int IntKind.i64] sts,
  AObj.arr (0 : Nat) (3 : Nat) [K.int IntKind.i64] dvs]))))))))))
    (Q (Ex.nrm) ([AV.ptr (0 : Nat) (0 : Nat), AV.int IntKind.i64 kk, AV.row nw [K.str, K.str, K.str, K.int IntKind.i64] rows,
  AV.int IntKind.i64 (IntKind.i64.wrap (i + (1 : Int)))]) ([AObj.box
    [AV.int IntKind.i64 n, AV.int IntKind.i64 pi, AV.int IntKind.i64 e, AV.int IntKind.i64 g, AV.int IntKind.i64 fi,
      AV.row nl [K.int IntKind.i64] ps, AV.int IntKind.i64 fk, AV.int IntKind.i64 fa, AV.int IntKind.i64 ff,
      AV.int IntKind.i64 ft, AV.row nl3 [K.int IntKind.i64, K.int IntKind.i64, K.str] acts,
      AV.row nl4 [K.int IntKind.i64] ds, AV.int IntKind.i64 ro, AV.int IntKind.i64 sl, AV.int IntKind.i64 dir,
      AV.sl (1 : Nat) (0 : Nat) (1 : Nat), AV.sl (2 : Nat) (0 : Nat) m1, AV.sl (3 : Nat) (0 : Nat) m2],
  AObj.arr (0 : Nat) (9 : Nat) [K.str] [[AV.str z]], AObj.arr (0 : Nat) (3 : Nat) [K.int IntKind.i64] sts,
  AObj.arr (0 : Nat) (3 : Nat) [K.int IntKind.i64] dvs]))))))))
  (chk ((0 : Nat) + m1 ≤ sts.length) (chk ((0 : Nat) + m2 ≤ dvs.length) ((∀ (b104 : Bool),
  ((b104 = s_right fk fa ft ro i) →
  br (b104)
   (chk ((0 : Int) ≤ i ∧ i < (↑rows.length : Int)) ((∀ (b108 : Bool),
   (∀ (x'109 : ByteArray),
   (∀ (y'110 : ByteArray),
   ((x'109 = ((rows.getD i.toNat []).getD (2 : Nat) AV.gone).toS) →
   ((y'110 = z) →
   ((s_front x'109 y'110 → b108 = true) →
   br (!b108)
    (Q (Ex.ret) ([AV.bool false]) ([]))
    (Q (Ex.nrm) ([AV.ptr (0 : Nat) (0 : Nat), AV.int IntKind.i64 kk, AV.row nw [K.str, K.str, K.str, K.int IntKind.i64] rows,
  AV.int IntKind.i64 (IntKind.i64.wrap (i + (1 : Int)))]) ([AObj.box
    [AV.int IntKind.i64 n, AV.int IntKind.i64 pi, AV.int IntKind.i64 e, AV.int IntKind.i64 g, AV.int IntKind.i64 fi,
      AV.row nl [K.int IntKind.i64] ps, AV.int IntKind.i64 fk, AV.int IntKind.i64 fa, AV.int IntKind.i64 ff,
      AV.int IntKind.i64 ft, AV.row nl3 [K.int IntKind.i64, K.int IntKind.i64, K.str] acts,
      AV.row nl4 [K.int IntKind.i64] ds, AV.int IntKind.i64 ro, AV.int IntKind.i64 sl, AV.int IntKind.i64 dir,
      AV.sl (1 : Nat) (0 : Nat) (1 : Nat), AV.sl (2 : Nat) (0 : Nat) m1, AV.sl (3 : Nat) (0 : Nat) m2],
  AObj.arr (0 : Nat) (9 : Nat) [K.str] [[AV.str z]], AObj.arr (0 : Nat) (3 : Nat) [K.int IntKind.i64] sts,
  AObj.arr (0 : Nat) (3 : Nat) [K.int IntKind.i64] dvs]))))))))))
   (Q (Ex.nrm) ([AV.ptr (0 : Nat) (0 : Nat), AV.int IntKind.i64 kk, AV.row nw [K.str, K.str, K.str, K.int IntKind.i64] rows,
  AV.int IntKind.i64 (IntKind.i64.wrap (i + (1 : Int)))]) ([AObj.box
    [AV.int IntKind.i64 n, AV.int IntKind.i64 pi, AV.int IntKind.i64 e, AV.int IntKind.i64 g, AV.int IntKind.i64 fi,
      AV.row nl [K.int IntKind.i64] ps, AV.int IntKind.i64 fk, AV.int IntKind.i64 fa, AV.int IntKind.i64 ff,
      AV.int IntKind.i64 ft, AV.row nl3 [K.int IntKind.i64, K.int IntKind.i64, K.str] acts,
      AV.row nl4 [K.int IntKind.i64] ds, AV.int IntKind.i64 ro, AV.int IntKind.i64 sl, AV.int IntKind.i64 dir,
      AV.sl (1 : Nat) (0 : Nat) (1 : Nat), AV.sl (2 : Nat) (0 : Nat) m1, AV.sl (3 : Nat) (0 : Nat) m2],
  AObj.arr (0 : Nat) (9 : Nat) [K.str] [[AV.str z]], AObj.arr (0 : Nat) (3 : Nat) [K.int IntKind.i64] sts,
  AObj.arr (0 : Nat) (3 : Nat) [K.int IntKind.i64] dvs]))))))))
 (Q (Ex.exit (0 : Nat)) ([AV.ptr (0 : Nat) (0 : Nat), AV.row nw [K.str, K.str, K.str, K.int IntKind.i64] rows]) ([AObj.box
    [AV.int IntKind.i64 n, AV.int IntKind.i64 pi, AV.int IntKind.i64 e, AV.int IntKind.i64 g, AV.int IntKind.i64 fi,
      AV.row nl [K.int IntKind.i64] ps, AV.int IntKind.i64 fk, AV.int IntKind.i64 fa, AV.int IntKind.i64 ff,
      AV.int IntKind.i64 ft, AV.row nl3 [K.int IntKind.i64, K.int IntKind.i64, K.str] acts,
      AV.row nl4 [K.int IntKind.i64] ds, AV.int IntKind.i64 ro, AV.int IntKind.i64 sl, AV.int IntKind.i64 dir,
      AV.sl (1 : Nat) (0 : Nat) (1 : Nat), AV.sl (2 : Nat) (0 : Nat) m1, AV.sl (3 : Nat) (0 : Nat) m2],
  AObj.arr (0 : Nat) (9 : Nat) [K.str] [[AV.str z]], AObj.arr (0 : Nat) (3 : Nat) [K.int IntKind.i64] sts,
  AObj.arr (0 : Nat) (3 : Nat) [K.int IntKind.i64] dvs]))) := by kernel_rfl
theorem nfCon (n pi e g fi : Int) (nl : Bool) (ps : List (List AV)) (fk fa ff ft : Int) (nl1 nl2 : Bool) (acts ds : List (List AV)) (round slot : Int) (up : Bool) (k r sl pk pv : Int) (nl3 : Bool) (ec : List (List AV)) (nl4 : Bool) (ns : List (List AV)) (Q : AV × List AObj → Prop) : inlW Tryz.prog H0 Z1C 6 (InO Tryz.prog H0 Z1C 6 6) 4 [cf n pi e g fi nl ps, .agg [.int .i64 fk, .int .i64 fa, .int .i64 ff, .int .i64 ft, .row nl1 [.int .i64, .int .i64, .str] acts, .row nl2 [.int .i64] ds], .int .i64 round, .int .i64 slot, .bool up, .agg [.int .i64 k, .int .i64 r, .int .i64 sl, .int .i64 pk, .int .i64 pv, .row nl3 [.int .i64, .int .i64] ec], .row nl4 [.int .i64] ns] [] Q = (
((Hyp (acts.length ≤ (9223372036854775807 : Nat))) ∧
((∀ (b101 : Bool),
((b101 = true →
  acts.length ≤ (50 : Nat) ∧ ds.length ≤ (50 : Nat) ∧ ∀ (r : List AV), r ∈ acts → (actText r).size ≤ (1200 : Nat)) →
br (!b101)
 (Q ((AV.bool true, [])))
 ((∀ (n104 : Int),
 (∀ (pi105 : Int),
 (∀ (e106 : Int),
 (∀ (g107 : Int),
 (∀ (fi108 : Int),
 (∀ (nl109 : Bool),
 (∀ (qs110 : List Int),
 (∀ (k'111 : Int),
 (∀ (a'112 : Int),
 (∀ (f'113 : Int),
 (∀ (t'114 : Int),
 (∀ (nl1'115 : Bool),
 (∀ (nl2'116 : Bool),
 (∀ (acts'117 : List (List AV)),
 (∀ (ds'118 : List Int),
 (∀ (ro119 : Int),
 (∀ (sl'120 : Int),
 (∀ (dir121 : Int),
 (∀ (m122 : Nat),
 (∀ (dv123 : List Int),
 ((s_made n104 pi105 e106 g107 fi108 qs110 ∧
  s_fok n104 k'111 a'112 f'113 t'114 acts'117 ds'118 ∧
    (0 : Int) ≤ ro119 ∧
      ro119 ≤ (130 : Int) ∧
        (0 : Int) ≤ sl'120 ∧
          sl'120 < n104 + (↑qs110.length : Int) ∧
            (dir121 = if up = true then (1 : Int) else (-1 : Int)) ∧ (↑m122 : Int) = n104 ∧ s_devs pi105 m122 dv123) →
 ((chk ((0 : Int) < n104 ∧ n104 < (9223372036854775808 : Int)) (((Hyp ((6 : Int) ≤ n104 ∧ n104 ≤ (12 : Int) ∧ (List.map (fun n => [AV.int IntKind.i64 n]) qs110).length ≤ (3 : Nat))) ∧
 ((∀ (k'128 : Int),
 (∀ (r'129 : Int),
 (∀ (sl'130 : Int),
 (∀ (pk'131 : Int),
 (∀ (pv'132 : Int),
 (∀ (nl'133 : Bool),
 (∀ (rows134 : List (List AV)),
 ((rows134.length ≤ (15 : Nat)) →
 ((Hyp (rows134.length ≤ (30 : Nat))) ∧
 ((∀ (z137 : ByteArray),
 ((s_clean z137 = z137 ∧ (0 : Nat) < z137.size ∧ z137.size ≤ (1000 : Nat)) →
 br (decide ((↑ns.length : Int) > (1 : Int)))
  (chk ((0 : Int) ≤ (1 : Int) ∧ (1 : Int) < (↑ns.length : Int)) (br (s_rem ((ns.getD (1 : Nat) []).getD (0 : Nat) AV.gone).toI (8 : Int) == (0 : Int))
   (chk ((0 : Nat) + m122 ≤ (s_rep m122 (4 : Int)).length) (chk ((0 : Nat) + m122 ≤ (List.map (fun n => [AV.int IntKind.i64 n]) dv123).length) ((∀ (b144 : Bool),
   ((b144 = s_right k'111 a'112 t'114 ro119 (s_rem slot n104)) →
   br (!b144)
    (Q ((AV.bool true, [])))
    (((Hyp ((0 : Int) < n104 ∧
  n104 ≤ (1000000 : Int) ∧
    (-1000000 : Int) ≤ s_rem slot n104 ∧
      s_rem slot n104 ≤ (1000000 : Int) ∧ (-1000000 : Int) ≤ dir121 ∧ dir121 ≤ (1000000 : Int))) ∧
    (((Hyp ((6 : Int) ≤ n104 ∧
  n104 ≤ (12 : Int) ∧
    (0 : Int) ≤ s_rem slot n104 ∧
      s_rem slot n104 < n104 ∧
        (0 : Int) ≤ s_rem (s_rem slot n104 + dir121) n104 ∧ s_rem (s_rem slot n104 + dir121) n104 < n104)) ∧
    (chk ((0 : Nat) + m122 ≤ (s_rep m122 (4 : Int)).length) (chk ((0 : Nat) + m122 ≤ (List.map (fun n => [AV.int IntKind.i64 n]) dv123).length) (((Hyp (s_confOk n104 pi105 e106 g107 fi108
      (List.map (fun r => (r.getD (0 : Nat) AV.gone).toI) (List.map (fun n => [AV.int IntKind.i64 n]) qs110)) =
    true ∧
  s_actsB acts'117 ∧
    (0 : Int) ≤ ro119 ∧
      ro119 ≤ (1000000 : Int) ∧
        (0 : Int) ≤ s_rem slot n104 ∧
          s_rem slot n104 ≤ (1000000 : Int) ∧
            (dir121 = (1 : Int) ∨ dir121 = (-1 : Int)) ∧
              (↑(List.take m122 (List.drop (0 : Nat) (s_rep m122 (4 : Int)))).length : Int) = n104 ∧
                (↑(List.take m122 (List.drop (0 : Nat) (List.map (fun n => [AV.int IntKind.i64 n]) dv123))).length :
                      Int) =
                    n104 ∧
                  s_rem slot n104 < n104 ∧ (0 : Nat) ≤ (1000000 : Nat))) ∧
    ((∀ (em152 : Int → Int → ByteArray → ByteArray),
    ((∀ (fm dst : Int) (base : ByteArray),
  (0 : Int) ≤ dst →
    dst ≤ (1000000 : Int) →
      base.size ≤ (1000000 : Nat) → s_emitR (s_hit n104 k'111 a'112 fm dst) f'113 t'114 ro119 base (em152 fm dst base)) →
    (∀ (rows154 : List (List AV)),
    ((rows154 =
  s_gIterS
    { n := n104, dir := dir121, sl := s_rem slot n104, pi := pi105,
      way := s_wayL n104 (s_rem slot n104) dir121 (n104 - (1 : Int)).toNat,
      sts := List.take m122 (List.drop (0 : Nat) (s_rep m122 (4 : Int))),
      dvs := List.take m122 (List.drop (0 : Nat) (List.map (fun n => [AV.int IntKind.i64 n]) dv123)), em := em152 }
    (s_gI1 n104 (s_rem slot n104) (ByteArray.mk #[])) (s_gI2 n104 (s_rem slot n104)) (0 : Nat) (n104 - (1 : Int)).toNat) →
    ((Hyp ((0 : Int) ≤ (0 : Int) ∧
  (0 : Int) ≤ (↑rows154.length : Int) ∧
    rows154.length ≤ (12 : Nat) ∧
      m122 = (s_rep m122 (4 : Int)).length ∧
        m122 = (List.map (fun n => [AV.int IntKind.i64 n]) dv123).length ∧
          ∀ (j : Int),
            (0 : Int) ≤ j →
              j < (↑rows154.length : Int) →
                s_right k'111 a'112 t'114 ro119 j = true →
                  ¬(k'111 = (2 : Int) ∧
                        a'112 = s_linkN n104 (s_rem slot n104) (s_rem (s_rem slot n104 + dir121) n104) ∧
                          s_farZ rows154 j = (1 : Int)) →
                    s_front (s_outZ rows154 j) (ByteArray.mk #[]))) ∧
    (Q ((AV.bool ((↑rows154.length : Int) == n104), []))))))))))))))))))))))
   (chk ((0 : Nat) + m122 ≤ (s_rep m122 (4 : Int)).length) (chk ((0 : Nat) + m122 ≤ (List.map (fun n => [AV.int IntKind.i64 n]) dv123).length) ((∀ (b144 : Bool),
   ((b144 = s_right k'111 a'112 t'114 ro119 (s_rem slot n104)) →
   br (!b144)
    (Q ((AV.bool true, [])))
    (((Hyp ((0 : Int) < n104 ∧
  n104 ≤ (1000000 : Int) ∧
    (-1000000 : Int) ≤ s_rem slot n104 ∧
      s_rem slot n104 ≤ (1000000 : Int) ∧ (-1000000 : Int) ≤ dir121 ∧ dir121 ≤ (1000000 : Int))) ∧
    (((Hyp ((6 : Int) ≤ n104 ∧
  n104 ≤ (12 : Int) ∧
    (0 : Int) ≤ s_rem slot n104 ∧
      s_rem slot n104 < n104 ∧
        (0 : Int) ≤ s_rem (s_rem slot n104 + dir121) n104 ∧ s_rem (s_rem slot n104 + dir121) n104 < n104)) ∧
    (chk ((0 : Nat) + m122 ≤ (s_rep m122 (4 : Int)).length) (chk ((0 : Nat) + m122 ≤ (List.map (fun n => [AV.int IntKind.i64 n]) dv123).length) (((Hyp (s_confOk n104 pi105 e106 g107 fi108
      (List.map (fun r => (r.getD (0 : Nat) AV.gone).toI) (List.map (fun n => [AV.int IntKind.i64 n]) qs110)) =
    true ∧
  s_actsB acts'117 ∧
    (0 : Int) ≤ ro119 ∧
      ro119 ≤ (1000000 : Int) ∧
        (0 : Int) ≤ s_rem slot n104 ∧
          s_rem slot n104 ≤ (1000000 : Int) ∧
            (dir121 = (1 : Int) ∨ dir121 = (-1 : Int)) ∧
              (↑(List.take m122 (List.drop (0 : Nat) (s_rep m122 (4 : Int)))).length : Int) = n104 ∧
                (↑(List.take m122 (List.drop (0 : Nat) (List.map (fun n => [AV.int IntKind.i64 n]) dv123))).length :
                      Int) =
                    n104 ∧
                  s_rem slot n104 < n104 ∧ z137.size ≤ (1000000 : Nat))) ∧
    ((∀ (em152 : Int → Int → ByteArray → ByteArray),
    ((∀ (fm dst : Int) (base : ByteArray),
  (0 : Int) ≤ dst →
    dst ≤ (1000000 : Int) →
      base.size ≤ (1000000 : Nat) → s_emitR (s_hit n104 k'111 a'112 fm dst) f'113 t'114 ro119 base (em152 fm dst base)) →
    (∀ (rows154 : List (List AV)),
    ((rows154 =
  s_gIterS
    { n := n104, dir := dir121, sl := s_rem slot n104, pi := pi105,
      way := s_wayL n104 (s_rem slot n104) dir121 (n104 - (1 : Int)).toNat,
      sts := List.take m122 (List.drop (0 : Nat) (s_rep m122 (4 : Int))),
      dvs := List.take m122 (List.drop (0 : Nat) (List.map (fun n => [AV.int IntKind.i64 n]) dv123)), em := em152 }
    (s_gI1 n104 (s_rem slot n104) z137) (s_gI2 n104 (s_rem slot n104)) (0 : Nat) (n104 - (1 : Int)).toNat) →
    ((Hyp ((0 : Int) ≤ (0 : Int) ∧
  (0 : Int) ≤ (↑rows154.length : Int) ∧
    rows154.length ≤ (12 : Nat) ∧
      m122 = (s_rep m122 (4 : Int)).length ∧
        m122 = (List.map (fun n => [AV.int IntKind.i64 n]) dv123).length ∧
          ∀ (j : Int),
            (0 : Int) ≤ j →
              j < (↑rows154.length : Int) →
                s_right k'111 a'112 t'114 ro119 j = true →
                  ¬(k'111 = (2 : Int) ∧
                        a'112 = s_linkN n104 (s_rem slot n104) (s_rem (s_rem slot n104 + dir121) n104) ∧
                          s_farZ rows154 j = (1 : Int)) →
                    s_front (s_outZ rows154 j) z137)) ∧
    (Q ((AV.bool ((↑rows154.length : Int) == n104), []))))))))))))))))))))))))
  (chk ((0 : Nat) + m122 ≤ (s_rep m122 (4 : Int)).length) (chk ((0 : Nat) + m122 ≤ (List.map (fun n => [AV.int IntKind.i64 n]) dv123).length) ((∀ (b142 : Bool),
  ((b142 = s_right k'111 a'112 t'114 ro119 (s_rem slot n104)) →
  br (!b142)
   (Q ((AV.bool true, [])))
   (((Hyp ((0 : Int) < n104 ∧
  n104 ≤ (1000000 : Int) ∧
    (-1000000 : Int) ≤ s_rem slot n104 ∧
      s_rem slot n104 ≤ (1000000 : Int) ∧ (-1000000 : Int) ≤ dir121 ∧ dir121 ≤ (1000000 : Int))) ∧
   (((Hyp ((6 : Int) ≤ n104 ∧
  n104 ≤ (12 : Int) ∧
    (0 : Int) ≤ s_rem slot n104 ∧
      s_rem slot n104 < n104 ∧
        (0 : Int) ≤ s_rem (s_rem slot n104 + dir121) n104 ∧ s_rem (s_rem slot n104 + dir121) n104 < n104)) ∧
   (chk ((0 : Nat) + m122 ≤ (s_rep m122 (4 : Int)).length) (chk ((0 : Nat) + m122 ≤ (List.map (fun n => [AV.int IntKind.i64 n]) dv123).length) (((Hyp (s_confOk n104 pi105 e106 g107 fi108
      (List.map (fun r => (r.getD (0 : Nat) AV.gone).toI) (List.map (fun n => [AV.int IntKind.i64 n]) qs110)) =
    true ∧
  s_actsB acts'117 ∧
    (0 : Int) ≤ ro119 ∧
      ro119 ≤ (1000000 : Int) ∧
        (0 : Int) ≤ s_rem slot n104 ∧
          s_rem slot n104 ≤ (1000000 : Int) ∧
            (dir121 = (1 : Int) ∨ dir121 = (-1 : Int)) ∧
              (↑(List.take m122 (List.drop (0 : Nat) (s_rep m122 (4 : Int)))).length : Int) = n104 ∧
                (↑(List.take m122 (List.drop (0 : Nat) (List.map (fun n => [AV.int IntKind.i64 n]) dv123))).length :
                      Int) =
                    n104 ∧
                  s_rem slot n104 < n104 ∧ z137.size ≤ (1000000 : Nat))) ∧
   ((∀ (em150 : Int → Int → ByteArray → ByteArray),
   ((∀ (fm dst : Int) (base : ByteArray),
  (0 : Int) ≤ dst →
    dst ≤ (1000000 : Int) →
      base.size ≤ (1000000 : Nat) → s_emitR (s_hit n104 k'111 a'112 fm dst) f'113 t'114 ro119 base (em150 fm dst base)) →
   (∀ (rows152 : List (List AV)),
   ((rows152 =
  s_gIterS
    { n := n104, dir := dir121, sl := s_rem slot n104, pi := pi105,
      way := s_wayL n104 (s_rem slot n104) dir121 (n104 - (1 : Int)).toNat,
      sts := List.take m122 (List.drop (0 : Nat) (s_rep m122 (4 : Int))),
      dvs := List.take m122 (List.drop (0 : Nat) (List.map (fun n => [AV.int IntKind.i64 n]) dv123)), em := em150 }
    (s_gI1 n104 (s_rem slot n104) z137) (s_gI2 n104 (s_rem slot n104)) (0 : Nat) (n104 - (1 : Int)).toNat) →
   ((Hyp ((0 : Int) ≤ (0 : Int) ∧
  (0 : Int) ≤ (↑rows152.length : Int) ∧
    rows152.length ≤ (12 : Nat) ∧
      m122 = (s_rep m122 (4 : Int)).length ∧
        m122 = (List.map (fun n => [AV.int IntKind.i64 n]) dv123).length ∧
          ∀ (j : Int),
            (0 : Int) ≤ j →
              j < (↑rows152.length : Int) →
                s_right k'111 a'112 t'114 ro119 j = true →
                  ¬(k'111 = (2 : Int) ∧
                        a'112 = s_linkN n104 (s_rem slot n104) (s_rem (s_rem slot n104 + dir121) n104) ∧
                          s_farZ rows152 j = (1 : Int)) →
                    s_front (s_outZ rows152 j) z137)) ∧
   (Q ((AV.bool ((↑rows152.length : Int) == n104), [])))))))))))))))))))))))))))))))))))))) ∧
 ((∀ (rows126 : List (List AV)),
 ((rows126.length ≤ (2 : Nat)) →
 ((s_strs rows126) →
 chk ((0 : Int) < n104 ∧ n104 < (9223372036854775808 : Int)) (((Hyp ((6 : Int) ≤ n104 ∧ n104 ≤ (12 : Int) ∧ (List.map (fun n => [AV.int IntKind.i64 n]) qs110).length ≤ (3 : Nat))) ∧
 ((∀ (k'131 : Int),
 (∀ (r'132 : Int),
 (∀ (sl'133 : Int),
 (∀ (pk'134 : Int),
 (∀ (pv'135 : Int),
 (∀ (nl'136 : Bool),
 (∀ (rows137 : List (List AV)),
 ((rows137.length ≤ (15 : Nat)) →
 ((Hyp (rows137.length ≤ (30 : Nat))) ∧
 ((∀ (z140 : ByteArray),
 ((s_clean z140 = z140 ∧ (0 : Nat) < z140.size ∧ z140.size ≤ (1000 : Nat)) →
 br (decide ((↑ns.length : Int) > (1 : Int)))
  (chk ((0 : Int) ≤ (1 : Int) ∧ (1 : Int) < (↑ns.length : Int)) (br (s_rem ((ns.getD (1 : Nat) []).getD (0 : Nat) AV.gone).toI (8 : Int) == (0 : Int))
   (chk ((0 : Nat) + m122 ≤ (s_rep m122 (4 : Int)).length) (chk ((0 : Nat) + m122 ≤ (List.map (fun n => [AV.int IntKind.i64 n]) dv123).length) ((∀ (b147 : Bool),
   ((b147 = s_right k'111 a'112 t'114 ro119 (s_rem slot n104)) →
   br (!b147)
    (Q ((AV.bool true, [])))
    (((Hyp ((0 : Int) < n104 ∧
  n104 ≤ (1000000 : Int) ∧
    (-1000000 : Int) ≤ s_rem slot n104 ∧
      s_rem slot n104 ≤ (1000000 : Int) ∧ (-1000000 : Int) ≤ dir121 ∧ dir121 ≤ (1000000 : Int))) ∧
    (((Hyp ((6 : Int) ≤ n104 ∧
  n104 ≤ (12 : Int) ∧
    (0 : Int) ≤ s_rem slot n104 ∧
      s_rem slot n104 < n104 ∧
        (0 : Int) ≤ s_rem (s_rem slot n104 + dir121) n104 ∧ s_rem (s_rem slot n104 + dir121) n104 < n104)) ∧
    (chk ((0 : Nat) + m122 ≤ (s_rep m122 (4 : Int)).length) (chk ((0 : Nat) + m122 ≤ (List.map (fun n => [AV.int IntKind.i64 n]) dv123).length) (((Hyp (s_confOk n104 pi105 e106 g107 fi108
      (List.map (fun r => (r.getD (0 : Nat) AV.gone).toI) (List.map (fun n => [AV.int IntKind.i64 n]) qs110)) =
    true ∧
  s_actsB acts'117 ∧
    (0 : Int) ≤ ro119 ∧
      ro119 ≤ (1000000 : Int) ∧
        (0 : Int) ≤ s_rem slot n104 ∧
          s_rem slot n104 ≤ (1000000 : Int) ∧
            (dir121 = (1 : Int) ∨ dir121 = (-1 : Int)) ∧
              (↑(List.take m122 (List.drop (0 : Nat) (s_rep m122 (4 : Int)))).length : Int) = n104 ∧
                (↑(List.take m122 (List.drop (0 : Nat) (List.map (fun n => [AV.int IntKind.i64 n]) dv123))).length :
                      Int) =
                    n104 ∧
                  s_rem slot n104 < n104 ∧ (0 : Nat) ≤ (1000000 : Nat))) ∧
    ((∀ (em155 : Int → Int → ByteArray → ByteArray),
    ((∀ (fm dst : Int) (base : ByteArray),
  (0 : Int) ≤ dst →
    dst ≤ (1000000 : Int) →
      base.size ≤ (1000000 : Nat) → s_emitR (s_hit n104 k'111 a'112 fm dst) f'113 t'114 ro119 base (em155 fm dst base)) →
    (∀ (rows157 : List (List AV)),
    ((rows157 =
  s_gIterS
    { n := n104, dir := dir121, sl := s_rem slot n104, pi := pi105,
      way := s_wayL n104 (s_rem slot n104) dir121 (n104 - (1 : Int)).toNat,
      sts := List.take m122 (List.drop (0 : Nat) (s_rep m122 (4 : Int))),
      dvs := List.take m122 (List.drop (0 : Nat) (List.map (fun n => [AV.int IntKind.i64 n]) dv123)), em := em155 }
    (s_gI1 n104 (s_rem slot n104) (ByteArray.mk #[])) (s_gI2 n104 (s_rem slot n104)) (0 : Nat) (n104 - (1 : Int)).toNat) →
    ((Hyp ((0 : Int) ≤ (0 : Int) ∧
  (0 : Int) ≤ (↑rows157.length : Int) ∧
    rows157.length ≤ (12 : Nat) ∧
      m122 = (s_rep m122 (4 : Int)).length ∧
        m122 = (List.map (fun n => [AV.int IntKind.i64 n]) dv123).length ∧
          ∀ (j : Int),
            (0 : Int) ≤ j →
              j < (↑rows157.length : Int) →
                s_right k'111 a'112 t'114 ro119 j = true →
                  ¬(k'111 = (2 : Int) ∧
                        a'112 = s_linkN n104 (s_rem slot n104) (s_rem (s_rem slot n104 + dir121) n104) ∧
                          s_farZ rows157 j = (1 : Int)) →
                    s_front (s_outZ rows157 j) (ByteArray.mk #[]))) ∧
    (Q ((AV.bool ((↑rows157.length : Int) == n104), []))))))))))))))))))))))
   (chk ((0 : Nat) + m122 ≤ (s_rep m122 (4 : Int)).length) (chk ((0 : Nat) + m122 ≤ (List.map (fun n => [AV.int IntKind.i64 n]) dv123).length) ((∀ (b147 : Bool),
   ((b147 = s_right k'111 a'112 t'114 ro119 (s_rem slot n104)) →
   br (!b147)
    (Q ((AV.bool true, [])))
    (((Hyp ((0 : Int) < n104 ∧
  n104 ≤ (1000000 : Int) ∧
    (-1000000 : Int) ≤ s_rem slot n104 ∧
      s_rem slot n104 ≤ (1000000 : Int) ∧ (-1000000 : Int) ≤ dir121 ∧ dir121 ≤ (1000000 : Int))) ∧
    (((Hyp ((6 : Int) ≤ n104 ∧
  n104 ≤ (12 : Int) ∧
    (0 : Int) ≤ s_rem slot n104 ∧
      s_rem slot n104 < n104 ∧
        (0 : Int) ≤ s_rem (s_rem slot n104 + dir121) n104 ∧ s_rem (s_rem slot n104 + dir121) n104 < n104)) ∧
    (chk ((0 : Nat) + m122 ≤ (s_rep m122 (4 : Int)).length) (chk ((0 : Nat) + m122 ≤ (List.map (fun n => [AV.int IntKind.i64 n]) dv123).length) (((Hyp (s_confOk n104 pi105 e106 g107 fi108
      (List.map (fun r => (r.getD (0 : Nat) AV.gone).toI) (List.map (fun n => [AV.int IntKind.i64 n]) qs110)) =
    true ∧
  s_actsB acts'117 ∧
    (0 : Int) ≤ ro119 ∧
      ro119 ≤ (1000000 : Int) ∧
        (0 : Int) ≤ s_rem slot n104 ∧
          s_rem slot n104 ≤ (1000000 : Int) ∧
            (dir121 = (1 : Int) ∨ dir121 = (-1 : Int)) ∧
              (↑(List.take m122 (List.drop (0 : Nat) (s_rep m122 (4 : Int)))).length : Int) = n104 ∧
                (↑(List.take m122 (List.drop (0 : Nat) (List.map (fun n => [AV.int IntKind.i64 n]) dv123))).length :
                      Int) =
                    n104 ∧
                  s_rem slot n104 < n104 ∧ z140.size ≤ (1000000 : Nat))) ∧
    ((∀ (em155 : Int → Int → ByteArray → ByteArray),
    ((∀ (fm dst : Int) (base : ByteArray),
  (0 : Int) ≤ dst →
    dst ≤ (1000000 : Int) →
      base.size ≤ (1000000 : Nat) → s_emitR (s_hit n104 k'111 a'112 fm dst) f'113 t'114 ro119 base (em155 fm dst base)) →
    (∀ (rows157 : List (List AV)),
    ((rows157 =
  s_gIterS
    { n := n104, dir := dir121, sl := s_rem slot n104, pi := pi105,
      way := s_wayL n104 (s_rem slot n104) dir121 (n104 - (1 : Int)).toNat,
      sts := List.take m122 (List.drop (0 : Nat) (s_rep m122 (4 : Int))),
      dvs := List.take m122 (List.drop (0 : Nat) (List.map (fun n => [AV.int IntKind.i64 n]) dv123)), em := em155 }
    (s_gI1 n104 (s_rem slot n104) z140) (s_gI2 n104 (s_rem slot n104)) (0 : Nat) (n104 - (1 : Int)).toNat) →
    ((Hyp ((0 : Int) ≤ (0 : Int) ∧
  (0 : Int) ≤ (↑rows157.length : Int) ∧
    rows157.length ≤ (12 : Nat) ∧
      m122 = (s_rep m122 (4 : Int)).length ∧
        m122 = (List.map (fun n => [AV.int IntKind.i64 n]) dv123).length ∧
          ∀ (j : Int),
            (0 : Int) ≤ j →
              j < (↑rows157.length : Int) →
                s_right k'111 a'112 t'114 ro119 j = true →
                  ¬(k'111 = (2 : Int) ∧
                        a'112 = s_linkN n104 (s_rem slot n104) (s_rem (s_rem slot n104 + dir121) n104) ∧
                          s_farZ rows157 j = (1 : Int)) →
                    s_front (s_outZ rows157 j) z140)) ∧
    (Q ((AV.bool ((↑rows157.length : Int) == n104), []))))))))))))))))))))))))
  (chk ((0 : Nat) + m122 ≤ (s_rep m122 (4 : Int)).length) (chk ((0 : Nat) + m122 ≤ (List.map (fun n => [AV.int IntKind.i64 n]) dv123).length) ((∀ (b145 : Bool),
  ((b145 = s_right k'111 a'112 t'114 ro119 (s_rem slot n104)) →
  br (!b145)
   (Q ((AV.bool true, [])))
   (((Hyp ((0 : Int) < n104 ∧
  n104 ≤ (1000000 : Int) ∧
    (-1000000 : Int) ≤ s_rem slot n104 ∧
      s_rem slot n104 ≤ (1000000 : Int) ∧ (-1000000 : Int) ≤ dir121 ∧ dir121 ≤ (1000000 : Int))) ∧
   (((Hyp ((6 : Int) ≤ n104 ∧
  n104 ≤ (12 : Int) ∧
    (0 : Int) ≤ s_rem slot n104 ∧
      s_rem slot n104 < n104 ∧
        (0 : Int) ≤ s_rem (s_rem slot n104 + dir121) n104 ∧ s_rem (s_rem slot n104 + dir121) n104 < n104)) ∧
   (chk ((0 : Nat) + m122 ≤ (s_rep m122 (4 : Int)).length) (chk ((0 : Nat) + m122 ≤ (List.map (fun n => [AV.int IntKind.i64 n]) dv123).length) (((Hyp (s_confOk n104 pi105 e106 g107 fi108
      (List.map (fun r => (r.getD (0 : Nat) AV.gone).toI) (List.map (fun n => [AV.int IntKind.i64 n]) qs110)) =
    true ∧
  s_actsB acts'117 ∧
    (0 : Int) ≤ ro119 ∧
      ro119 ≤ (1000000 : Int) ∧
        (0 : Int) ≤ s_rem slot n104 ∧
          s_rem slot n104 ≤ (1000000 : Int) ∧
            (dir121 = (1 : Int) ∨ dir121 = (-1 : Int)) ∧
              (↑(List.take m122 (List.drop (0 : Nat) (s_rep m122 (4 : Int)))).length : Int) = n104 ∧
                (↑(List.take m122 (List.drop (0 : Nat) (List.map (fun n => [AV.int IntKind.i64 n]) dv123))).length :
                      Int) =
                    n104 ∧
                  s_rem slot n104 < n104 ∧ z140.size ≤ (1000000 : Nat))) ∧
   ((∀ (em153 : Int → Int → ByteArray → ByteArray),
   ((∀ (fm dst : Int) (base : ByteArray),
  (0 : Int) ≤ dst →
    dst ≤ (1000000 : Int) →
      base.size ≤ (1000000 : Nat) → s_emitR (s_hit n104 k'111 a'112 fm dst) f'113 t'114 ro119 base (em153 fm dst base)) →
   (∀ (rows155 : List (List AV)),
   ((rows155 =
  s_gIterS
    { n := n104, dir := dir121, sl := s_rem slot n104, pi := pi105,
      way := s_wayL n104 (s_rem slot n104) dir121 (n104 - (1 : Int)).toNat,
      sts := List.take m122 (List.drop (0 : Nat) (s_rep m122 (4 : Int))),
      dvs := List.take m122 (List.drop (0 : Nat) (List.map (fun n => [AV.int IntKind.i64 n]) dv123)), em := em153 }
    (s_gI1 n104 (s_rem slot n104) z140) (s_gI2 n104 (s_rem slot n104)) (0 : Nat) (n104 - (1 : Int)).toNat) →
   ((Hyp ((0 : Int) ≤ (0 : Int) ∧
  (0 : Int) ≤ (↑rows155.length : Int) ∧
    rows155.length ≤ (12 : Nat) ∧
      m122 = (s_rep m122 (4 : Int)).length ∧
        m122 = (List.map (fun n => [AV.int IntKind.i64 n]) dv123).length ∧
          ∀ (j : Int),
            (0 : Int) ≤ j →
              j < (↑rows155.length : Int) →
                s_right k'111 a'112 t'114 ro119 j = true →
                  ¬(k'111 = (2 : Int) ∧
                        a'112 = s_linkN n104 (s_rem slot n104) (s_rem (s_rem slot n104 + dir121) n104) ∧
                          s_farZ rows155 j = (1 : Int)) →
                    s_front (s_outZ rows155 j) z140)) ∧
   (Q ((AV.bool ((↑rows155.length : Int) == n104), []))))))))))))))))))))))))))))))))))))))))))))))))))))))))))))))))))))) := by kernel_rfl
end Go.Proofs.YtiemjcchlfbglaaGreatE
/- SpreadContained: the plain law. -/
namespace Go.Proofs.YtiemjcchlfbglaaGreatE
open Go Go.WideShapes
set_option linter.unusedVariables false
set_option linter.unusedSimpArgs false
set_option maxRecDepth 100000

theorem okLCon : OkLp Tryz.prog H0 4 16 lCon := by
  refine okLp_of (U := 6) (k := 6) okZ1 lCon (fun vals h => match vals with | [_, _, .row _ _ rows, .int _ i] => ((rows.length : Int) - i).toNat | _ => 0) fun vals h Q hl => ?_
  unfold lCon at hl
  split at hl
  · rename_i kk nw rows i n pi e g fi nl ps fk fa ff ft nl3 acts nl4 ds ro sl dir m1 m2 z sts dvs
    obtain ⟨⟨h0, h1, h2, h3, h4, h5⟩, hq⟩ := hyp_iff.1 hl
    refine to (nfCona ..) (br_intro (fun c => ?_) fun c => hq)
    have c := of_decide_eq_true c
    have wi : IntKind.i64.wrap (i + 1) = i + 1 := wr (by omega) (by omega)
    have nxt : ((rows.length : Int) - (i + 1)).toNat < ((rows.length : Int) - i).toNat := by omega
    have hyp : (0 ≤ i + 1 ∧ i + 1 ≤ (rows.length : Int) ∧ rows.length ≤ 12 ∧ m1 = sts.length ∧ m2 = dvs.length ∧ ∀ j : Int, 0 ≤ j → j < rows.length → s_right fk fa ft ro j = true → ¬ (fk = 2 ∧ fa = kk ∧ s_farZ rows j = 1) → s_front (s_outZ rows j) z) := ⟨by omega, by omega, h2, h3, h4, h5⟩
    rw [wi]
    refine br_intro (fun c1 => br_intro (fun c2 => ?_) fun c2 => ?_) fun c1 => ?_
    · rw [chk_iff, chk_iff, chk_iff]
      refine ⟨⟨h0, c⟩, by omega, by omega, fun b hb => br_intro (fun hb1 => br_intro (fun c3 => ?_) fun _ => ⟨nxt, hyp_iff.2 ⟨hyp, hq⟩⟩) fun _ => ⟨nxt, hyp_iff.2 ⟨hyp, hq⟩⟩⟩
      rw [chk_iff]
      refine ⟨⟨h0, c⟩, fun b2 x y hx hy hf => br_intro (fun hn => ?_) fun _ => ⟨nxt, hyp_iff.2 ⟨hyp, hq⟩⟩⟩
      have c3 : ¬ s_farZ rows i = 1 := by
        intro hh
        have : ((rows.getD i.toNat []).getD 3 AV.gone).toI = 1 := hh
        rw [this] at c3
        simp at c3
      have := hf (by rw [hx, hy]; exact h5 i h0 c (hb.symm.trans hb1) (fun h => c3 h.2.2))
      rw [this] at hn
      cases hn
    · rw [chk_iff, chk_iff]
      refine ⟨by omega, by omega, fun b hb => br_intro (fun hb1 => ?_) fun _ => ⟨nxt, hyp_iff.2 ⟨hyp, hq⟩⟩⟩
      rw [chk_iff]
      refine ⟨⟨h0, c⟩, fun b2 x y hx hy hf => br_intro (fun hn => ?_) fun _ => ⟨nxt, hyp_iff.2 ⟨hyp, hq⟩⟩⟩
      have c2 : ¬ fa = kk := by simpa using c2
      have := hf (by rw [hx, hy]; exact h5 i h0 c (hb.symm.trans hb1) (fun h => c2 h.2.1))
      rw [this] at hn
      cases hn
    · rw [chk_iff, chk_iff]
      refine ⟨by omega, by omega, fun b hb => br_intro (fun hb1 => ?_) fun _ => ⟨nxt, hyp_iff.2 ⟨hyp, hq⟩⟩⟩
      rw [chk_iff]
      refine ⟨⟨h0, c⟩, fun b2 x y hx hy hf => br_intro (fun hn => ?_) fun _ => ⟨nxt, hyp_iff.2 ⟨hyp, hq⟩⟩⟩
      have c1 : ¬ fk = 2 := by simpa using c1
      have := hf (by rw [hx, hy]; exact h5 i h0 c (hb.symm.trans hb1) (fun h => c1 h.1))
      rw [this] at hn
      cases hn
  · exact hl.elim
theorem okZ1C : OkSp Tryz.prog H0 Z1C := ⟨okZ1.fn, okLCon, trivial⟩
/- Which link it is. -/
def lk1 (n o dir : Int) (k : Nat) : Int := if dir = 1 then s_node n o dir k else s_node n o dir (k + 1)
def lk2 (n o dir : Int) (k : Nat) : Int := (if dir = 1 then s_node n o dir k else s_node n o dir (k + 2)) + n
theorem lk1_eq {n o dir : Int} (hn : 6 ≤ n) (hd : dir = 1 ∨ dir = -1) (hs : 0 ≤ o ∧ o < n) {k : Nat} (hk : (k : Int) + 1 < n) : s_linkO n (s_node n o dir k) (s_node n o dir (k + 1)) = some (lk1 n o dir k) := by
  unfold lk1
  rcases hd with rfl | rfl
  · rw [if_pos rfl]; exact ndl_up1 hn hs.1 hs.2 hk
  · rw [if_neg (by omega)]; exact ndl_dn1 hn hs.1 hs.2 hk
theorem lk2_eq {n o dir : Int} (hn : 6 ≤ n) (hd : dir = 1 ∨ dir = -1) (hs : 0 ≤ o ∧ o < n) {k : Nat} (hk : (k : Int) + 2 < n) : s_linkO n (s_node n o dir k) (s_node n o dir (k + 2)) = some (lk2 n o dir k) := by
  unfold lk2
  rcases hd with rfl | rfl
  · rw [if_pos rfl]; exact ndl_up2 hn hs.1 hs.2 hk
  · rw [if_neg (by omega)]; exact ndl_dn2 hn hs.1 hs.2 hk
theorem lk1_lt {n o dir : Int} (hn : 0 < n) (k : Nat) : 0 ≤ lk1 n o dir k ∧ lk1 n o dir k < n := by
  unfold lk1
  split
  · exact node_lt hn k
  · exact node_lt hn (k + 1)
theorem lk2_ge {n o dir : Int} (hn : 0 < n) (k : Nat) : n ≤ lk2 n o dir k := by
  unfold lk2
  have h1 := node_lt (n := n) (o := o) (dir := dir) hn k
  have h2 := node_lt (n := n) (o := o) (dir := dir) hn (k + 2)
  split <;> omega
theorem lk1_ne {n o dir : Int} (hd : dir = 1 ∨ dir = -1) (hs : 0 ≤ o ∧ o < n) {j k : Nat} (hj : (j : Int) + 1 < n) (hk : (k : Int) + 1 < n) (h : j ≠ k) : lk1 n o dir j ≠ lk1 n o dir k := by
  unfold lk1
  intro e
  split at e
  · have h1 := far_node hd hs.1 hs.2 (k := j) (by omega)
    have h2 := far_node hd hs.1 hs.2 (k := k) (by omega)
    rw [e, h2] at h1
    omega
  · have h1 := far_node hd hs.1 hs.2 (k := j + 1) (by omega)
    have h2 := far_node hd hs.1 hs.2 (k := k + 1) (by omega)
    rw [e, h2] at h1
    omega
theorem run_contained {n dir sl pi k a f t ro : Int} {sts dvs : List (List AV)} {em : Int → Int → ByteArray → ByteArray} {z : ByteArray} {rows : List (List AV)} (hn : 6 ≤ n) (hn2 : n ≤ 12) (hd : dir = 1 ∨ dir = -1) (hs : 0 ≤ sl ∧ sl < n)
    (hS : ∀ i, 0 ≤ i → i < n → s_int sts i = 4) (hD : ∀ i, 0 ≤ i → i < n → -(2 * pi) ≤ s_int dvs i ∧ s_int dvs i ≤ 2 * pi)
    (hr : rows = s_gIterS ⟨n, dir, sl, pi, s_wayL n sl dir (n - 1).toNat, sts, dvs, em⟩ (s_gI1 n sl z) (s_gI2 n sl) 0 (n - 1).toNat)
    (hE : ∀ (fm dst : Int) (base : ByteArray), 0 ≤ dst → dst ≤ 1000000 → base.size ≤ 1000000 → s_emitR (s_hit n k a fm dst) f t ro base (em fm dst base)) (hz : z.size ≤ 1000) (hc : s_clean z = z)
    (hrs : s_right k a t ro sl = true) :
    rows.length = n.toNat ∧ ∀ j : Int, 0 ≤ j → j < n → s_right k a t ro j = true → ¬ (k = 2 ∧ a = s_linkN n sl (s_rem (sl + dir) n) ∧ s_farZ rows j = 1) → s_front (s_outZ rows j) z := by
  obtain ⟨P, Pn, Pd, Psl, Pe, hok, hN, hS', hg, hl, get⟩ := run_one hn hn2 hd hs hS hD hr
  have hE' : gEm P (s_hit n k a) f t ro := by unfold gEm; rw [Pe]; exact hE
  refine ⟨hl, fun j j0 j1 hrj hnb => ?_⟩
  have hf := far_lt (n := n) (o := sl) (dir := dir) (by omega) j
  have hnf := node_far hd hs.1 hs.2 j0 j1
  have hfar : s_farZ rows j = ((s_far n sl dir j).toNat : Int) := by
    unfold s_farZ
    rw [get j j0 j1]
    unfold gSide
    by_cases h0 : (s_far n sl dir j).toNat = 0
    · rw [if_pos h0, h0]; rfl
    · rw [if_neg h0, if_neg (fun h => by cases h.1)]; rfl
  unfold s_outZ
  rw [get j j0 j1, gSide_out hok (by omega)]
  have fin : ∀ bad : Nat → Prop, ((s_far n sl dir j).toNat = 0 ∨ ¬ bad (s_far n sl dir j).toNat) → (¬ bad 1 → s_hit n k a (s_node n sl dir 0) (s_node n sl dir 1) = false ∨ t ≤ ro) →
      (∀ i : Nat, (i : Int) + 2 < n → ¬ bad (i + 2) → ((s_hit n k a (s_node n sl dir (i + 1)) (s_node n sl dir (i + 2)) = false ∨ t ≤ ro) ∧ ¬ bad (i + 1)) ∨ ((s_hit n k a (s_node n sl dir i) (s_node n sl dir (i + 2)) = false ∨ t ≤ ro) ∧ (i = 0 ∨ ¬ bad i))) →
      s_front (gO P sl false z ⟨#[]⟩ (s_far n sl dir j).toNat).1 z := fun bad hb h1 h2 =>
    contained hok (by omega) hS' hg hE' (by omega) (cl_iff.2 hc) bad (fun _ hb1 => by rw [hN, hN]; exact h1 hb1) (fun i hi hb2 => by rw [hN, hN, hN]; exact h2 i (by omega) hb2) _ (by omega) hb
  by_cases ht : t ≤ ro
  · exact fin (fun _ => False) (.inr id) (fun _ => .inr ht) (fun _ _ _ => .inl ⟨.inr ht, id⟩)
  by_cases k1 : k = 1
  · subst k1
    have hh : ∀ x y, x ≠ a → s_hit n 1 a x y = false := fun x y hx => by
      unfold s_hit
      rw [if_pos rfl]
      exact beq_eq_false_iff_ne.2 hx
    have hsl : sl ≠ a := fun e => by unfold s_right at hrs; simp [e] at hrs; omega
    have hja : j ≠ a := fun e => by unfold s_right at hrj; simp [e] at hrj; omega
    refine fin (fun i => s_node n sl dir i = a) (.inr (by rw [hnf]; exact hja)) (fun _ => .inl (hh _ _ (by rw [node_zero hs.1 hs.2]; exact hsl))) fun i hi hb => ?_
    by_cases h1 : s_node n sl dir (i + 1) = a
    · have h0 : s_node n sl dir i ≠ a := fun e => by
        have e1 := far_node hd hs.1 hs.2 (k := i + 1) (by omega)
        have e2 := far_node hd hs.1 hs.2 (k := i) (by omega)
        rw [h1] at e1
        rw [e, e1] at e2
        omega
      exact .inr ⟨.inl (hh _ _ h0), .inr h0⟩
    · exact .inl ⟨.inl (hh _ _ h1), h1⟩
  by_cases k2 : k = 2
  · subst k2
    have hl1 : ∀ i : Nat, (i : Int) + 1 < n → s_hit n 2 a (s_node n sl dir i) (s_node n sl dir (i + 1)) = (lk1 n sl dir i == a) := fun i hi => hit_link (lk1_eq hn hd hs hi)
    have hl2 : ∀ i : Nat, (i : Int) + 2 < n → s_hit n 2 a (s_node n sl dir i) (s_node n sl dir (i + 2)) = (lk2 n sl dir i == a) := fun i hi => hit_link (lk2_eq hn hd hs hi)
    have hB : lk1 n sl dir 0 = s_linkN n sl (s_rem (sl + dir) n) := by
      have := lk1_eq hn hd hs (k := 0) (by omega)
      rw [node_zero hs.1 hs.2] at this
      unfold s_linkN
      rw [show s_rem (sl + dir) n = s_node n sl dir 1 from node_of 1 (by omega), this]
      rfl
    refine fin (fun i => i = 1 ∧ lk1 n sl dir 0 = a) ?_ (fun hb => .inl ?_) fun i hi hb => ?_
    · by_cases h0 : (s_far n sl dir j).toNat = 0
      · exact .inl h0
      · exact .inr fun h => hnb ⟨rfl, by rw [← hB]; exact h.2.symm, by rw [hfar, h.1]; rfl⟩
    · rw [hl1 0 (by omega)]
      exact beq_eq_false_iff_ne.2 fun e => hb ⟨rfl, e⟩
    · have g1 := fun i => lk1_lt (n := n) (o := sl) (dir := dir) (by omega) i
      have g2 := fun i => lk2_ge (n := n) (o := sl) (dir := dir) (by omega) i
      rw [hl1 (i + 1) (by omega), hl2 i hi]
      by_cases hb1 : i + 1 = 1 ∧ lk1 n sl dir 0 = a
      · have := g1 0
        have := g2 i
        exact .inr ⟨.inl (beq_eq_false_iff_ne.2 (by omega)), .inl (by omega)⟩
      · by_cases h : lk1 n sl dir (i + 1) = a
        · have := g1 (i + 1)
          have := g2 i
          refine .inr ⟨.inl (beq_eq_false_iff_ne.2 (by omega)), ?_⟩
          by_cases h0 : i = 0
          · exact .inl h0
          · exact .inr fun hb2 => lk1_ne hd hs (j := i + 1) (k := 0) (by omega) (by omega) (by omega) (h.trans hb2.2.symm)
        · exact .inl ⟨.inl (beq_eq_false_iff_ne.2 h), hb1⟩
  · have hh : ∀ x y, s_hit n k a x y = false := fun x y => by
      unfold s_hit
      rw [if_neg k1, if_neg k2]
    exact fin (fun _ => False) (.inr id) (fun _ => .inl (hh _ _)) (fun _ _ _ => .inl ⟨.inl (hh _ _), id⟩)
theorem contained_holds (n pi e g fi : Int) (nl : Bool) (ps : List (List AV)) (fk fa ff ft : Int) (nl1 nl2 : Bool) (acts ds : List (List AV)) (hacts : ∀ r ∈ acts, ∃ (a b : Int) (s : ByteArray), r = [.int .i64 a, .int .i64 b, .str s] ∧ (s.size : Int) ≤ maxLen) (hal : acts.length ≤ maxLen) (hdl : ds.length ≤ maxLen) (hds : ∀ r ∈ ds, AInt .i64 r)
    (round slot : Int) (up : Bool) (k r sl pk pv : Int) (nl3 : Bool) (ec : List (List AV)) (nl4 : Bool) (ns : List (List AV)) :
    inlW Tryz.prog H0 Z1C 6 (InO Tryz.prog H0 Z1C 6 6) 4 [cf n pi e g fi nl ps, .agg [.int .i64 fk, .int .i64 fa, .int .i64 ff, .int .i64 ft, .row nl1 [.int .i64, .int .i64, .str] acts, .row nl2 [.int .i64] ds], .int .i64 round, .int .i64 slot, .bool up, .agg [.int .i64 k, .int .i64 r, .int .i64 sl, .int .i64 pk, .int .i64 pv, .row nl3 [.int .i64, .int .i64] ec], .row nl4 [.int .i64] ns] [] (fun r => r.1 = .bool true) := by
  refine to (nfCon ..) (hyp_iff.2 ⟨by unfold maxLen at hal; omega, fun b hb => br_intro (fun _ => rfl) fun _ => ?_⟩)
  intro n' pi' e' g' fi' nl' qs k' a' f' t' nl1' nl2' acts' ds' ro sl' dir m dv hx
  obtain ⟨hm, hf, ro0, ro1, sl0, sl1, hdir, hmn, hdv⟩ := hx
  have hd : dir = 1 ∨ dir = -1 := by rw [hdir]; split <;> omega
  have hn := hm.1
  have hn2 := hm.2.1
  have hp := madeR hm
  have hql : (List.map (fun n => [AV.int IntKind.i64 n]) qs).length ≤ 3 := by rw [List.length_map]; unfold s_made at hm; omega
  have hs := rem_lt slot (show 0 < n' by omega)
  have hnx := rem_lt (s_rem slot n' + dir) (show 0 < n' by omega)
  have hS : ∀ i, 0 ≤ i → i < n' → s_int (s_rep m 4) i = 4 := fun i i0 i1 => repR_int i0 (by omega)
  have hD : ∀ i, 0 ≤ i → i < n' → -(2 * pi') ≤ s_int (irow .i64 dv) i ∧ s_int (irow .i64 dv) i ≤ 2 * pi' := fun i i0 i1 => irow_int hdv i0 (by omega)
  have cm : s_confOk n' pi' e' g' fi' (List.map (fun r => (r.getD 0 AV.gone).toI) (List.map (fun n => [AV.int IntKind.i64 n]) qs)) = true := cfR_ok hm
  have ca := actsR_ok hf
  have hil : ((irow .i64 dv).length : Int) = n' := by rw [← hmn, ← devs_len hdv]; rfl
  have tail : ∀ z : ByteArray, z.size ≤ 1000 → s_clean z = z → s_right k' a' t' ro (s_rem slot n') = true → ∀ em : Int → Int → ByteArray → ByteArray,
      (∀ (fm dst : Int) (base : ByteArray), 0 ≤ dst → dst ≤ 1000000 → base.size ≤ 1000000 → s_emitR (s_hit n' k' a' fm dst) f' t' ro base (em fm dst base)) →
      ∀ rows : List (List AV), rows = s_gIterS ⟨n', dir, s_rem slot n', pi', s_wayL n' (s_rem slot n') dir (n' - 1).toNat, s_rep m 4, irow .i64 dv, em⟩ (s_gI1 n' (s_rem slot n') z) (s_gI2 n' (s_rem slot n')) 0 (n' - 1).toNat →
      (0 ≤ (rows.length : Int) ∧ rows.length ≤ 12 ∧ (∀ j : Int, 0 ≤ j → j < (rows.length : Int) → s_right k' a' t' ro j = true → ¬ (k' = 2 ∧ a' = s_linkN n' (s_rem slot n') (s_rem (s_rem slot n' + dir) n') ∧ s_farZ rows j = 1) → s_front (s_outZ rows j) z)) ∧ AV.bool ((rows.length : Int) == n') = AV.bool true := fun z hz hc hrs em he rows hr => by
    obtain ⟨hl, hh⟩ := run_contained hn hn2 hd hs hS hD hr he hz hc hrs
    refine ⟨⟨by omega, by omega, fun j j0 j1 => hh j j0 (by omega)⟩, ?_⟩
    rw [show (rows.length : Int) = n' by omega]
    simp
  have h01 : s_clean (ByteArray.mk #[]) = ByteArray.mk #[] := rfl
  simp only [chk_iff, hyp_iff, repR_take, rep_len, irow_take hdv, devs_len hdv]
  refine ⟨⟨⟨by omega, by omega⟩, ⟨hn, hn2, hql⟩, fun _ _ _ _ _ _ rows hr => ⟨by omega, fun z hz => br_intro (fun c => ⟨by have := of_decide_eq_true c; omega, br_intro (fun _ => ?_) fun _ => ?_⟩) fun _ => ?_⟩⟩,
    fun rows2 _ _ => ⟨⟨by omega, by omega⟩, ⟨hn, hn2, hql⟩, fun _ _ _ _ _ _ rows hr => ⟨by omega, fun z hz => br_intro (fun c => ⟨by have := of_decide_eq_true c; omega, br_intro (fun _ => ?_) fun _ => ?_⟩) fun _ => ?_⟩⟩⟩
  all_goals
    refine ⟨by omega, by omega, fun b hb => br_intro (fun _ => trivial) fun hrs => ⟨⟨by omega, by omega, by omega, by omega, by omega, by omega⟩, ⟨hn, hn2, hs.1, hs.2, hnx.1, hnx.2⟩, by omega, by omega, ⟨cm, ca, ro0, by omega, hs.1, by omega, hd, hmn, hil, hs.2, by omega⟩, fun em he rows hr => ?_⟩⟩
    have hrs : s_right k' a' t' ro (s_rem slot n') = true := by rw [← hb]; simpa using hrs
  · obtain ⟨⟨t1, t2, t3⟩, t4⟩ := tail _ (Nat.zero_le _) h01 hrs em he rows hr
    exact ⟨⟨by omega, t1, t2, trivial, trivial, t3⟩, t4⟩
  · obtain ⟨⟨t1, t2, t3⟩, t4⟩ := tail z hz.2.2 hz.1 hrs em he rows hr
    exact ⟨⟨by omega, t1, t2, trivial, trivial, t3⟩, t4⟩
  · obtain ⟨⟨t1, t2, t3⟩, t4⟩ := tail z hz.2.2 hz.1 hrs em he rows hr
    exact ⟨⟨by omega, t1, t2, trivial, trivial, t3⟩, t4⟩
  · obtain ⟨⟨t1, t2, t3⟩, t4⟩ := tail _ (Nat.zero_le _) h01 hrs em he rows hr
    exact ⟨⟨by omega, t1, t2, trivial, trivial, t3⟩, t4⟩
  · obtain ⟨⟨t1, t2, t3⟩, t4⟩ := tail z hz.2.2 hz.1 hrs em he rows hr
    exact ⟨⟨by omega, t1, t2, trivial, trivial, t3⟩, t4⟩
  · obtain ⟨⟨t1, t2, t3⟩, t4⟩ := tail z hz.2.2 hz.1 hrs em he rows hr
    exact ⟨⟨by omega, t1, t2, trivial, trivial, t3⟩, t4⟩
end Go.Proofs.YtiemjcchlfbglaaGreatE
