/- SpreadReaches: its loop's spec. -/
import Derived.Test.YtiemjcchlfbglaaBcM
import Derived.KernelRfl
namespace Go.Proofs.YtiemjcchlfbglaaE
open Go
set_option linter.unusedVariables false

def s_outJ (rows : List (List AV)) (i : Int) : ByteArray := s_out2 (rows.getD i.toNat [])
def lRch : LW := fun vals h Q => match vals, h with
  | [.ptr 0 0, .row nwa [.str, .str, .str, .int .i64] ra, .row nwb [.str, .str, .str, .int .i64] rb, .int .i64 i], [.box [.int .i64 n, .int .i64 pi, .int .i64 e, .int .i64 g, .int .i64 fi, .row nl [.int .i64] ps, .int .i64 fk, .int .i64 fa, .int .i64 ff, .int .i64 ft, .row nl3 [.int .i64, .int .i64, .str] acts, .row nl4 [.int .i64] ds, .int .i64 ro, .int .i64 sl, .int .i64 dir, .sl 1 0 1, .sl 2 0 m1, .sl 3 0 m2], .arr 0 9 [.str] [[.str z]], .arr 0 3 [.int .i64] sts, .arr 0 3 [.int .i64] dvs] =>
    Hyp (0 ≤ i ∧ i ≤ n ∧ n ≤ 12 ∧ (ra.length : Int) = n ∧ (rb.length : Int) = n ∧ m1 = sts.length ∧ m2 = dvs.length ∧ ∀ j : Int, 0 ≤ j → j < n → j ≠ sl → s_right fk fa ft ro j = true → s_outJ ra j = z ∨ s_outJ rb j = z) ∧ Q (.exit 0) [] []
  | _, _ => False
def Y3R : Sp := ⟨Y3.fn, [(3, 17, lRch)]⟩
end Go.Proofs.YtiemjcchlfbglaaE
/- What path mode says of functions, printed by a program of this session; the kernel holds each. -/
namespace Go.Proofs.YtiemjcchlfbglaaE
open Go
set_option maxRecDepth 100000
set_option linter.unusedVariables false
theorem nfRcha (i n pi e g fi fk fa ff ft ro sl dir : Int) (nl nl3 nl4 nwa nwb : Bool) (ps acts ds ra rb sts dvs : List (List AV)) (m1 m2 : Nat) (z : ByteArray) (Q : Ex → List AV → List AObj → Prop) : lpBody Try.prog H0 Y3 6 6 3 17 [.ptr 0 0, .row nwa [.str, .str, .str, .int .i64] ra, .row nwb [.str, .str, .str, .int .i64] rb, .int .i64 i] [.box [.int .i64 n, .int .i64 pi, .int .i64 e, .int .i64 g, .int .i64 fi, .row nl [.int .i64] ps, .int .i64 fk, .int .i64 fa, .int .i64 ff, .int .i64 ft, .row nl3 [.int .i64, .int .i64, .str] acts, .row nl4 [.int .i64] ds, .int .i64 ro, .int .i64 sl, .int .i64 dir, .sl 1 0 1, .sl 2 0 m1, .sl 3 0 m2], .arr 0 9 [.str] [[.str z]], .arr 0 3 [.int .i64] sts, .arr 0 3 [.int .i64] dvs] Q = (
br (decide (i < n))
 (br (i != sl)
  (chk ((0 : Nat) + m1 ≤ sts.length) (chk ((0 : Nat) + m2 ≤ dvs.length) ((∀ (b104 : Bool),
  ((b104 = s_right fk fa ft ro i) →
  br (b104)
   (chk ((0 : Int) ≤ i ∧ i < (↑ra.length : Int)) (br (!((ra.getD i.toNat []).getD (2 : Nat) AV.gone).toS.toList == z.toList)
    (chk ((0 : Int) ≤ i ∧ i < (↑rb.length : Int)) (br (!((rb.getD i.toNat []).getD (2 : Nat) AV.gone).toS.toList == z.toList)
     (Q (Ex.ret) ([AV.bool false]) ([]))
     (Q (Ex.nrm) ([AV.ptr (0 : Nat) (0 : Nat), AV.row nwa [K.str, K.str, K.str, K.int IntKind.i64] ra,
  AV.row nwb [K.str, K.str, K.str, K.int IntKind.i64] rb, AV.int IntKind.i64 (IntKind.i64.wrap (i + (1 : Int)))]) ([AObj.box
    [AV.int IntKind.i64 n, AV.int IntKind.i64 pi, AV.int IntKind.i64 e, AV.int IntKind.i64 g, AV.int IntKind.i64 fi,
      AV.row nl [K.int IntKind.i64] ps, AV.int IntKind.i64 fk, AV.int IntKind.i64 fa, AV.int IntKind.i64 ff,
      AV.int IntKind.i64 ft, AV.row nl3 [K.int IntKind.i64, K.int IntKind.i64, K.str] acts,
      AV.row nl4 [K.int IntKind.i64] ds, AV.int IntKind.i64 ro, AV.int IntKind.i64 sl, AV.int IntKind.i64 dir,
      AV.sl (1 : Nat) (0 : Nat) (1 : Nat), AV.sl (2 : Nat) (0 : Nat) m1, AV.sl (3 : Nat) (0 : Nat) m2],
  AObj.arr (0 : Nat) (9 : Nat) [K.str] [[AV.str z]], AObj.arr (0 : Nat) (3 : Nat) [K.int IntKind.i64] sts,
  AObj.arr (0 : Nat) (3 : Nat) [K.int IntKind.i64] dvs]))))
    (Q (Ex.nrm) ([AV.ptr (0 : Nat) (0 : Nat), AV.row nwa [K.str, K.str, K.str, K.int IntKind.i64] ra,
  AV.row nwb [K.str, K.str, K.str, K.int IntKind.i64] rb, AV.int IntKind.i64 (IntKind.i64.wrap (i + (1 : Int)))]) ([AObj.box
    [AV.int IntKind.i64 n, AV.int IntKind.i64 pi, AV.int IntKind.i64 e, AV.int IntKind.i64 g, AV.int IntKind.i64 fi,
      AV.row nl [K.int IntKind.i64] ps, AV.int IntKind.i64 fk, AV.int IntKind.i64 fa, AV.int IntKind.i64 ff,
      AV.int IntKind.i64 ft, AV.row nl3 [K.int IntKind.i64, K.int IntKind.i64, K.str] acts,
      AV.row nl4 [K.int IntKind.i64] ds, AV.int IntKind.i64 ro, AV.int IntKind.i64 sl, AV.int IntKind.i64 dir,
      AV.sl (1 : Nat) (0 : Nat) (1 : Nat), AV.sl (2 : Nat) (0 : Nat) m1, AV.sl (3 : Nat) (0 : Nat) m2],
  AObj.arr (0 : Nat) (9 : Nat) [K.str] [[AV.str z]], AObj.arr (0 : Nat) (3 : Nat) [K.int IntKind.i64] sts,
  AObj.arr (0 : Nat) (3 : Nat) [K.int IntKind.i64] dvs]))))
   (Q (Ex.nrm) ([AV.ptr (0 : Nat) (0 : Nat), AV.row nwa [K.str, K.str, K.str, K.int IntKind.i64] ra,
  AV.row nwb [K.str, K.str, K.str, K.int IntKind.i64] rb, AV.int IntKind.i64 (IntKind.i64.wrap (i + (1 : Int)))]) ([AObj.box
    [AV.int IntKind.i64 n, AV.int IntKind.i64 pi, AV.int IntKind.i64 e, AV.int IntKind.i64 g, AV.int IntKind.i64 fi,
      AV.row nl [K.int IntKind.i64] ps, AV.int IntKind.i64 fk, AV.int IntKind.i64 fa, AV.int IntKind.i64 ff,
      AV.int IntKind.i64 ft, AV.row nl3 [K.int IntKind.i64, K.int IntKind.i64, K.str] acts,
      AV.row nl4 [K.int IntKind.i64] ds, AV.int IntKind.i64 ro, AV.int IntKind.i64 sl, AV.int IntKind.i64 dir,
      AV.sl (1 : Nat) (0 : Nat) (1 : Nat), AV.sl (2 : Nat) (0 : Nat) m1, AV.sl (3 : Nat) (0 : Nat) m2],
  AObj.arr (0 : Nat) (9 : Nat) [K.str] [[AV.str z]], AObj.arr (0 : Nat) (3 : Nat) [K.int IntKind.i64] sts,
  AObj.arr (0 : Nat) (3 : Nat) [K.int IntKind.i64] dvs])))))))
  (Q (Ex.nrm) ([AV.ptr (0 : Nat) (0 : Nat), AV.row nwa [K.str, K.str, K.str, K.int IntKind.i64] ra,
  AV.row nwb [K.str, K.str, K.str, K.int IntKind.i64] rb, AV.int IntKind.i64 (IntKind.i64.wrap (i + (1 : Int)))]) ([AObj.box
    [AV.int IntKind.i64 n, AV.int IntKind.i64 pi, AV.int IntKind.i64 e, AV.int IntKind.i64 g, AV.int IntKind.i64 fi,
      AV.row nl [K.int IntKind.i64] ps, AV.int IntKind.i64 fk, AV.int IntKind.i64 fa, AV.int IntKind.i64 ff,
      AV.int IntKind.i64 ft, AV.row nl3 [K.int IntKind.i64, K.int IntKind.i64, K.str] acts,
      AV.row nl4 [K.int IntKind.i64] ds, AV.int IntKind.i64 ro, AV.int IntKind.i64 sl, AV.int IntKind.i64 dir,
      AV.sl (1 : Nat) (0 : Nat) (1 : Nat), AV.sl (2 : Nat) (0 : Nat) m1, AV.sl (3 : Nat) (0 : Nat) m2],
  AObj.arr (0 : Nat) (9 : Nat) [K.str] [[AV.str z]], AObj.arr (0 : Nat) (3 : Nat) [K.int IntKind.i64] sts,
  AObj.arr (0 : Nat) (3 : Nat) [K.int IntKind.i64] dvs])))
 (Q (Ex.exit (0 : Nat)) ([]) ([]))) := by kernel_rfl
theorem nfRch (n pi e g fi : Int) (nl : Bool) (ps : List (List AV)) (fk fa ff ft : Int) (nl1 nl2 : Bool) (acts ds : List (List AV)) (round slot : Int) (k r sl pk pv : Int) (nl3 : Bool) (ec : List (List AV)) (nl4 : Bool) (ns : List (List AV)) (Q : AV × List AObj → Prop) : inlW Try.prog H0 Y3R 6 (InO Try.prog H0 Y3R 6 6) 3 [cf n pi e g fi nl ps, .agg [.int .i64 fk, .int .i64 fa, .int .i64 ff, .int .i64 ft, .row nl1 [.int .i64, .int .i64, .str] acts, .row nl2 [.int .i64] ds], .int .i64 round, .int .i64 slot, .agg [.int .i64 k, .int .i64 r, .int .i64 sl, .int .i64 pk, .int .i64 pv, .row nl3 [.int .i64, .int .i64] ec], .row nl4 [.int .i64] ns] [] Q = (
((Hyp (acts.length ≤ (9223372036854775807 : Nat))) ∧
((∀ (b101 : Bool),
((b101 = true →
  acts.length ≤ (50 : Nat) ∧ ds.length ≤ (50 : Nat) ∧ ∀ (r : List AV), r ∈ acts → (actText r).size ≤ (1200 : Nat)) →
br (!b101)
 (Q ((AV.bool true, [])))
 ((∀ (n104 : Int),
 (∀ (pi105 : Int),
 (∀ (e106 : Int),
 (∀ (g107 : Int),
 (∀ (fi108 : Int),
 (∀ (nl109 : Bool),
 (∀ (qs110 : List Int),
 (∀ (k'111 : Int),
 (∀ (a'112 : Int),
 (∀ (f'113 : Int),
 (∀ (t'114 : Int),
 (∀ (nl1'115 : Bool),
 (∀ (nl2'116 : Bool),
 (∀ (acts'117 : List (List AV)),
 (∀ (ds'118 : List Int),
 (∀ (ro119 : Int),
 (∀ (sl'120 : Int),
 (∀ (dir121 : Int),
 (∀ (m122 : Nat),
 (∀ (dv123 : List Int),
 ((s_made n104 pi105 e106 g107 fi108 qs110 ∧
  s_fok n104 k'111 a'112 f'113 t'114 acts'117 ds'118 ∧
    (0 : Int) ≤ ro119 ∧
      ro119 ≤ (130 : Int) ∧
        (0 : Int) ≤ sl'120 ∧
          sl'120 < n104 + (↑qs110.length : Int) ∧ dir121 = (1 : Int) ∧ (↑m122 : Int) = n104 ∧ s_devs pi105 m122 dv123) →
 ((chk ((0 : Int) < n104 ∧ n104 < (9223372036854775808 : Int)) (((Hyp ((6 : Int) ≤ n104 ∧ n104 ≤ (12 : Int) ∧ (List.map (fun n => [AV.int IntKind.i64 n]) qs110).length ≤ (3 : Nat))) ∧
 ((∀ (k'128 : Int),
 (∀ (r'129 : Int),
 (∀ (sl'130 : Int),
 (∀ (pk'131 : Int),
 (∀ (pv'132 : Int),
 (∀ (nl'133 : Bool),
 (∀ (rows134 : List (List AV)),
 ((rows134.length ≤ (15 : Nat)) →
 ((Hyp (rows134.length ≤ (30 : Nat))) ∧
 ((∀ (z137 : ByteArray),
 ((s_clean z137 = z137 ∧ (0 : Nat) < z137.size ∧ z137.size ≤ (1000 : Nat)) →
 chk ((0 : Nat) + m122 ≤ (s_rep m122 (4 : Int)).length) (chk ((0 : Nat) + m122 ≤ (List.map (fun n => [AV.int IntKind.i64 n]) dv123).length) ((∀ (b141 : Bool),
 ((b141 = s_right k'111 a'112 t'114 ro119 (s_rem slot n104)) →
 br (!b141)
  (Q ((AV.bool true, [])))
  (chk ((0 : Nat) + m122 ≤ (s_rep m122 (4 : Int)).length) (chk ((0 : Nat) + m122 ≤ (List.map (fun n => [AV.int IntKind.i64 n]) dv123).length) (((Hyp (s_confOk n104 pi105 e106 g107 fi108
      (List.map (fun r => (r.getD (0 : Nat) AV.gone).toI) (List.map (fun n => [AV.int IntKind.i64 n]) qs110)) =
    true ∧
  s_actsB acts'117 ∧
    (0 : Int) ≤ ro119 ∧
      ro119 ≤ (1000000 : Int) ∧
        (0 : Int) ≤ s_rem slot n104 ∧
          s_rem slot n104 ≤ (1000000 : Int) ∧
            (dir121 = (1 : Int) ∨ dir121 = (-1 : Int)) ∧
              (↑(List.take m122 (List.drop (0 : Nat) (s_rep m122 (4 : Int)))).length : Int) = n104 ∧
                (↑(List.take m122 (List.drop (0 : Nat) (List.map (fun n => [AV.int IntKind.i64 n]) dv123))).length :
                      Int) =
                    n104 ∧
                  s_rem slot n104 < n104 ∧ z137.size ≤ (1000000 : Nat))) ∧
  ((∀ (em147 : Int → Int → ByteArray → ByteArray),
  ((∀ (fm dst : Int) (base : ByteArray),
  (0 : Int) ≤ dst →
    dst ≤ (1000000 : Int) →
      base.size ≤ (1000000 : Nat) → s_emitR (s_hit n104 k'111 a'112 fm dst) f'113 t'114 ro119 base (em147 fm dst base)) →
  (∀ (rows149 : List (List AV)),
  ((rows149 =
  s_gIterS
    { n := n104, dir := dir121, sl := s_rem slot n104, pi := pi105,
      way := s_wayL n104 (s_rem slot n104) dir121 (n104 - (1 : Int)).toNat,
      sts := List.take m122 (List.drop (0 : Nat) (s_rep m122 (4 : Int))),
      dvs := List.take m122 (List.drop (0 : Nat) (List.map (fun n => [AV.int IntKind.i64 n]) dv123)), em := em147 }
    (s_gI1 n104 (s_rem slot n104) z137) (s_gI2 n104 (s_rem slot n104)) (0 : Nat) (n104 - (1 : Int)).toNat) →
  chk ((0 : Nat) + m122 ≤ (s_rep m122 (4 : Int)).length) (chk ((0 : Nat) + m122 ≤ (List.map (fun n => [AV.int IntKind.i64 n]) dv123).length) (((Hyp (s_confOk n104 pi105 e106 g107 fi108
      (List.map (fun r => (r.getD (0 : Nat) AV.gone).toI) (List.map (fun n => [AV.int IntKind.i64 n]) qs110)) =
    true ∧
  s_actsB acts'117 ∧
    (0 : Int) ≤ ro119 ∧
      ro119 ≤ (1000000 : Int) ∧
        (0 : Int) ≤ s_rem slot n104 ∧
          s_rem slot n104 ≤ (1000000 : Int) ∧
            ((-1 : Int) = (1 : Int) ∨ (-1 : Int) = (-1 : Int)) ∧
              (↑(List.take m122 (List.drop (0 : Nat) (s_rep m122 (4 : Int)))).length : Int) = n104 ∧
                (↑(List.take m122 (List.drop (0 : Nat) (List.map (fun n => [AV.int IntKind.i64 n]) dv123))).length :
                      Int) =
                    n104 ∧
                  s_rem slot n104 < n104 ∧ z137.size ≤ (1000000 : Nat))) ∧
  ((∀ (em154 : Int → Int → ByteArray → ByteArray),
  ((∀ (fm dst : Int) (base : ByteArray),
  (0 : Int) ≤ dst →
    dst ≤ (1000000 : Int) →
      base.size ≤ (1000000 : Nat) → s_emitR (s_hit n104 k'111 a'112 fm dst) f'113 t'114 ro119 base (em154 fm dst base)) →
  (∀ (rows156 : List (List AV)),
  ((rows156 =
  s_gIterS
    { n := n104, dir := (-1 : Int), sl := s_rem slot n104, pi := pi105,
      way := s_wayL n104 (s_rem slot n104) (-1 : Int) (n104 - (1 : Int)).toNat,
      sts := List.take m122 (List.drop (0 : Nat) (s_rep m122 (4 : Int))),
      dvs := List.take m122 (List.drop (0 : Nat) (List.map (fun n => [AV.int IntKind.i64 n]) dv123)), em := em154 }
    (s_gI1 n104 (s_rem slot n104) z137) (s_gI2 n104 (s_rem slot n104)) (0 : Nat) (n104 - (1 : Int)).toNat) →
  br ((↑rows149.length : Int) != n104)
   (Q ((AV.bool false, [])))
   (br ((↑rows156.length : Int) != n104)
    (Q ((AV.bool false, [])))
    (((Hyp ((0 : Int) ≤ (0 : Int) ∧
  (0 : Int) ≤ n104 ∧
    n104 ≤ (12 : Int) ∧
      (↑rows149.length : Int) = n104 ∧
        (↑rows156.length : Int) = n104 ∧
          m122 = (s_rep m122 (4 : Int)).length ∧
            m122 = (List.map (fun n => [AV.int IntKind.i64 n]) dv123).length ∧
              ∀ (j : Int),
                (0 : Int) ≤ j →
                  j < n104 →
                    j ≠ s_rem slot n104 →
                      s_right k'111 a'112 t'114 ro119 j = true → s_outJ rows149 j = z137 ∨ s_outJ rows156 j = z137)) ∧
    (Q ((AV.bool true, []))))))))))))))))))))))))))))))))))))))))))) ∧
 ((∀ (rows126 : List (List AV)),
 ((rows126.length ≤ (2 : Nat)) →
 ((s_strs rows126) →
 chk ((0 : Int) < n104 ∧ n104 < (9223372036854775808 : Int)) (((Hyp ((6 : Int) ≤ n104 ∧ n104 ≤ (12 : Int) ∧ (List.map (fun n => [AV.int IntKind.i64 n]) qs110).length ≤ (3 : Nat))) ∧
 ((∀ (k'131 : Int),
 (∀ (r'132 : Int),
 (∀ (sl'133 : Int),
 (∀ (pk'134 : Int),
 (∀ (pv'135 : Int),
 (∀ (nl'136 : Bool),
 (∀ (rows137 : List (List AV)),
 ((rows137.length ≤ (15 : Nat)) →
 ((Hyp (rows137.length ≤ (30 : Nat))) ∧
 ((∀ (z140 : ByteArray),
 ((s_clean z140 = z140 ∧ (0 : Nat) < z140.size ∧ z140.size ≤ (1000 : Nat)) →
 chk ((0 : Nat) + m122 ≤ (s_rep m122 (4 : Int)).length) (chk ((0 : Nat) + m122 ≤ (List.map (fun n => [AV.int IntKind.i64 n]) dv123).length) ((∀ (b144 : Bool),
 ((b144 = s_right k'111 a'112 t'114 ro119 (s_rem slot n104)) →
 br (!b144)
  (Q ((AV.bool true, [])))
  (chk ((0 : Nat) + m122 ≤ (s_rep m122 (4 : Int)).length) (chk ((0 : Nat) + m122 ≤ (List.map (fun n => [AV.int IntKind.i64 n]) dv123).length) (((Hyp (s_confOk n104 pi105 e106 g107 fi108
      (List.map (fun r => (r.getD (0 : Nat) AV.gone).toI) (List.map (fun n => [AV.int IntKind.i64 n]) qs110)) =
    true ∧
  s_actsB acts'117 ∧
    (0 : Int) ≤ ro119 ∧
      ro119 ≤ (1000000 : Int) ∧
        (0 : Int) ≤ s_rem slot n104 ∧
          s_rem slot n104 ≤ (1000000 : Int) ∧
            (dir121 = (1 : Int) ∨ dir121 = (-1 : Int)) ∧
              (↑(List.take m122 (List.drop (0 : Nat) (s_rep m122 (4 : Int)))).length : Int) = n104 ∧
                (↑(List.take m122 (List.drop (0 : Nat) (List.map (fun n => [AV.int IntKind.i64 n]) dv123))).length :
                      Int) =
                    n104 ∧
                  s_rem slot n104 < n104 ∧ z140.size ≤ (1000000 : Nat))) ∧
  ((∀ (em150 : Int → Int → ByteArray → ByteArray),
  ((∀ (fm dst : Int) (base : ByteArray),
  (0 : Int) ≤ dst →
    dst ≤ (1000000 : Int) →
      base.size ≤ (1000000 : Nat) → s_emitR (s_hit n104 k'111 a'112 fm dst) f'113 t'114 ro119 base (em150 fm dst base)) →
  (∀ (rows152 : List (List AV)),
  ((rows152 =
  s_gIterS
    { n := n104, dir := dir121, sl := s_rem slot n104, pi := pi105,
      way := s_wayL n104 (s_rem slot n104) dir121 (n104 - (1 : Int)).toNat,
      sts := List.take m122 (List.drop (0 : Nat) (s_rep m122 (4 : Int))),
      dvs := List.take m122 (List.drop (0 : Nat) (List.map (fun n => [AV.int IntKind.i64 n]) dv123)), em := em150 }
    (s_gI1 n104 (s_rem slot n104) z140) (s_gI2 n104 (s_rem slot n104)) (0 : Nat) (n104 - (1 : Int)).toNat) →
  chk ((0 : Nat) + m122 ≤ (s_rep m122 (4 : Int)).length) (chk ((0 : Nat) + m122 ≤ (List.map (fun n => [AV.int IntKind.i64 n]) dv123).length) (((Hyp (s_confOk n104 pi105 e106 g107 fi108
      (List.map (fun r => (r.getD (0 : Nat) AV.gone).toI) (List.map (fun n => [AV.int IntKind.i64 n]) qs110)) =
    true ∧
  s_actsB acts'117 ∧
    (0 : Int) ≤ ro119 ∧
      ro119 ≤ (1000000 : Int) ∧
        (0 : Int) ≤ s_rem slot n104 ∧
          s_rem slot n104 ≤ (1000000 : Int) ∧
            ((-1 : Int) = (1 : Int) ∨ (-1 : Int) = (-1 : Int)) ∧
              (↑(List.take m122 (List.drop (0 : Nat) (s_rep m122 (4 : Int)))).length : Int) = n104 ∧
                (↑(List.take m122 (List.drop (0 : Nat) (List.map (fun n => [AV.int IntKind.i64 n]) dv123))).length :
                      Int) =
                    n104 ∧
                  s_rem slot n104 < n104 ∧ z140.size ≤ (1000000 : Nat))) ∧
  ((∀ (em157 : Int → Int → ByteArray → ByteArray),
  ((∀ (fm dst : Int) (base : ByteArray),
  (0 : Int) ≤ dst →
    dst ≤ (1000000 : Int) →
      base.size ≤ (1000000 : Nat) → s_emitR (s_hit n104 k'111 a'112 fm dst) f'113 t'114 ro119 base (em157 fm dst base)) →
  (∀ (rows159 : List (List AV)),
  ((rows159 =
  s_gIterS
    { n := n104, dir := (-1 : Int), sl := s_rem slot n104, pi := pi105,
      way := s_wayL n104 (s_rem slot n104) (-1 : Int) (n104 - (1 : Int)).toNat,
      sts := List.take m122 (List.drop (0 : Nat) (s_rep m122 (4 : Int))),
      dvs := List.take m122 (List.drop (0 : Nat) (List.map (fun n => [AV.int IntKind.i64 n]) dv123)), em := em157 }
    (s_gI1 n104 (s_rem slot n104) z140) (s_gI2 n104 (s_rem slot n104)) (0 : Nat) (n104 - (1 : Int)).toNat) →
  br ((↑rows152.length : Int) != n104)
   (Q ((AV.bool false, [])))
   (br ((↑rows159.length : Int) != n104)
    (Q ((AV.bool false, [])))
    (((Hyp ((0 : Int) ≤ (0 : Int) ∧
  (0 : Int) ≤ n104 ∧
    n104 ≤ (12 : Int) ∧
      (↑rows152.length : Int) = n104 ∧
        (↑rows159.length : Int) = n104 ∧
          m122 = (s_rep m122 (4 : Int)).length ∧
            m122 = (List.map (fun n => [AV.int IntKind.i64 n]) dv123).length ∧
              ∀ (j : Int),
                (0 : Int) ≤ j →
                  j < n104 →
                    j ≠ s_rem slot n104 →
                      s_right k'111 a'112 t'114 ro119 j = true → s_outJ rows152 j = z140 ∨ s_outJ rows159 j = z140)) ∧
    (Q ((AV.bool true, [])))))))))))))))))))))))))))))))))))))))))))))))))))))))))))))))))))))))))) := by kernel_rfl
end Go.Proofs.YtiemjcchlfbglaaE
/- SpreadReaches: the plain law. -/
namespace Go.Proofs.YtiemjcchlfbglaaE
open Go Go.WideShapes
set_option linter.unusedVariables false
set_option linter.unusedSimpArgs false
set_option maxRecDepth 100000

theorem okLRch : OkLp Try.prog H0 3 17 lRch := by
  refine okLp_of (U := 6) (k := 6) okY3 lRch (fun vals h => match vals, h with | [_, _, _, .int _ i], .box (.int _ n :: _) :: _ => (n - i).toNat | _, _ => 0) fun vals h Q hl => ?_
  unfold lRch at hl
  split at hl
  · rename_i nwa ra nwb rb i n pi e g fi nl ps fk fa ff ft nl3 acts nl4 ds ro sl dir m1 m2 z sts dvs
    obtain ⟨⟨h0, h1, h2, h3, h4, h5, h6, h7⟩, hq⟩ := hyp_iff.1 hl
    refine to (nfRcha ..) (br_intro (fun c => ?_) fun c => hq)
    have c := of_decide_eq_true c
    have wi : IntKind.i64.wrap (i + 1) = i + 1 := wr (by omega) (by omega)
    have nxt : (n - (i + 1)).toNat < (n - i).toNat := by omega
    rw [wi]
    refine br_intro (fun c1 => ?_) fun c1 => ⟨nxt, hyp_iff.2 ⟨⟨by omega, by omega, h2, h3, h4, h5, h6, h7⟩, hq⟩⟩
    have c1 : i ≠ sl := by simpa using c1
    rw [chk_iff, chk_iff]
    refine ⟨by omega, by omega, fun b hb => br_intro (fun c2 => ?_) fun c2 => ⟨nxt, hyp_iff.2 ⟨⟨by omega, by omega, h2, h3, h4, h5, h6, h7⟩, hq⟩⟩⟩
    have hj := h7 i h0 c c1 (hb.symm.trans c2)
    rw [chk_iff]
    refine ⟨by omega, br_intro (fun c3 => ?_) fun c3 => ⟨nxt, hyp_iff.2 ⟨⟨by omega, by omega, h2, h3, h4, h5, h6, h7⟩, hq⟩⟩⟩
    rw [chk_iff]
    refine ⟨by omega, br_intro (fun c4 => ?_) fun c4 => ⟨nxt, hyp_iff.2 ⟨⟨by omega, by omega, h2, h3, h4, h5, h6, h7⟩, hq⟩⟩⟩
    rcases hj with hj | hj
    · exact absurd (c3.symm.trans (strR_eq hj)) (by simp)
    · exact absurd (c4.symm.trans (strR_eq hj)) (by simp)
  · exact hl.elim
theorem okY3R : OkSp Try.prog H0 Y3R := ⟨okY3.fn, okLRch, trivial⟩
theorem reaches_holds (n pi e g fi : Int) (nl : Bool) (ps : List (List AV)) (fk fa ff ft : Int) (nl1 nl2 : Bool) (acts ds : List (List AV)) (hacts : ∀ r ∈ acts, ∃ (a b : Int) (s : ByteArray), r = [.int .i64 a, .int .i64 b, .str s] ∧ (s.size : Int) ≤ maxLen) (hal : acts.length ≤ maxLen) (hdl : ds.length ≤ maxLen) (hds : ∀ r ∈ ds, AInt .i64 r)
    (round slot : Int) (k r sl pk pv : Int) (nl3 : Bool) (ec : List (List AV)) (nl4 : Bool) (ns : List (List AV)) :
    inlW Try.prog H0 Y3R 6 (InO Try.prog H0 Y3R 6 6) 3 [cf n pi e g fi nl ps, .agg [.int .i64 fk, .int .i64 fa, .int .i64 ff, .int .i64 ft, .row nl1 [.int .i64, .int .i64, .str] acts, .row nl2 [.int .i64] ds], .int .i64 round, .int .i64 slot, .agg [.int .i64 k, .int .i64 r, .int .i64 sl, .int .i64 pk, .int .i64 pv, .row nl3 [.int .i64, .int .i64] ec], .row nl4 [.int .i64] ns] [] (fun r => r.1 = .bool true) := by
  refine to (nfRch ..) (hyp_iff.2 ⟨by unfold maxLen at hal; omega, fun b hb => br_intro (fun _ => rfl) fun _ => ?_⟩)
  intro n' pi' e' g' fi' nl' qs k' a' f' t' nl1' nl2' acts' ds' ro sl' dir m dv hx
  obtain ⟨hm, hf, ro0, ro1, sl0, sl1, hdir, hmn, hdv⟩ := hx
  subst hdir
  have hn := hm.1
  have hn2 := hm.2.1
  have hp := madeR hm
  have hql : (List.map (fun n => [AV.int IntKind.i64 n]) qs).length ≤ 3 := by rw [List.length_map]; unfold s_made at hm; omega
  have hs := rem_lt slot (show 0 < n' by omega)
  have hf' := hf
  obtain ⟨hk0, hk1, f0, f1, f2, f3, g0, g1, g2, _⟩ := hf'
  have hS : ∀ i, 0 ≤ i → i < n' → s_int (s_rep m 4) i = 4 := fun i i0 i1 => repR_int i0 (by omega)
  have hD : ∀ i, 0 ≤ i → i < n' → -(2 * pi') ≤ s_int (irow .i64 dv) i ∧ s_int (irow .i64 dv) i ≤ 2 * pi' := fun i i0 i1 => irow_int hdv i0 (by omega)
  have tail : ∀ z : ByteArray, (s_clean z = z ∧ 0 < z.size ∧ z.size ≤ 1000) → s_right k' a' t' ro (s_rem slot n') = true → ∀ em1 em2 : Int → Int → ByteArray → ByteArray,
      (∀ (fm dst : Int) (base : ByteArray), 0 ≤ dst → dst ≤ 1000000 → base.size ≤ 1000000 → s_emitR (s_hit n' k' a' fm dst) f' t' ro base (em1 fm dst base)) → (∀ (fm dst : Int) (base : ByteArray), 0 ≤ dst → dst ≤ 1000000 → base.size ≤ 1000000 → s_emitR (s_hit n' k' a' fm dst) f' t' ro base (em2 fm dst base)) →
      ∀ ra rb : List (List AV), ra = s_gIterS ⟨n', 1, s_rem slot n', pi', s_wayL n' (s_rem slot n') 1 (n' - 1).toNat, s_rep m 4, irow .i64 dv, em1⟩ (s_gI1 n' (s_rem slot n') z) (s_gI2 n' (s_rem slot n')) 0 (n' - 1).toNat →
      rb = s_gIterS ⟨n', -1, s_rem slot n', pi', s_wayL n' (s_rem slot n') (-1) (n' - 1).toNat, s_rep m 4, irow .i64 dv, em2⟩ (s_gI1 n' (s_rem slot n') z) (s_gI2 n' (s_rem slot n')) 0 (n' - 1).toNat →
      ra.length = n'.toNat ∧ rb.length = n'.toNat ∧ ∀ j : Int, 0 ≤ j → j < n' → j ≠ s_rem slot n' → s_right k' a' t' ro j = true → s_outJ ra j = z ∨ s_outJ rb j = z := fun z hz hrs em1 em2 he1 he2 ra rb hra hrb => by
    obtain ⟨la, ga⟩ := run_reach hn hn2 (.inl rfl) hs hS hD hra he1 hz.2.2 hz.1
    obtain ⟨lb, gb⟩ := run_reach hn hn2 (.inr rfl) hs hS hD hrb he2 hz.2.2 hz.1
    refine ⟨la, lb, fun j j0 j1 jne hrj => ?_⟩
    obtain ⟨d, hd, p1, p2⟩ := reaches hn hs ⟨hk0, hk1⟩ g1 g2 hrs j0 j1 jne hrj
    rcases hd with rfl | rfl
    · exact .inl (ga j j0 j1 p1 p2)
    · exact .inr (gb j j0 j1 p1 p2)
  have L : ∀ x : List (List AV), x.length = n'.toNat → (x.length : Int) = n' := fun x hx => by omega
  have cm : s_confOk n' pi' e' g' fi' (List.map (fun r => (r.getD 0 AV.gone).toI) (List.map (fun n => [AV.int IntKind.i64 n]) qs)) = true := cfR_ok hm
  have ca := actsR_ok hf
  simp only [chk_iff, hyp_iff, repR_take, rep_len, irow_take hdv, devs_len hdv]
  have hil : ((irow .i64 dv).length : Int) = n' := by rw [← hmn, ← devs_len hdv]; rfl
  refine ⟨⟨⟨by omega, by omega⟩, ⟨hn, hn2, hql⟩, fun _ _ _ _ _ _ rows hr => ⟨by omega, fun z hz => ⟨by omega, by omega, fun b hb => br_intro (fun _ => trivial) fun hrs => ⟨by omega, by omega, ⟨cm, ca, ro0, by omega, hs.1, by omega, .inl trivial, hmn, hil, hs.2, by omega⟩, fun em1 he1 ra hra => ⟨by omega, by omega, ⟨cm, ca, ro0, by omega, hs.1, by omega, .inr trivial, hmn, hil, hs.2, by omega⟩, fun em2 he2 rb hrb => ?_⟩⟩⟩⟩⟩,
    fun rows2 _ _ => ⟨⟨by omega, by omega⟩, ⟨hn, hn2, hql⟩, fun _ _ _ _ _ _ rows hr => ⟨by omega, fun z hz => ⟨by omega, by omega, fun b hb => br_intro (fun _ => trivial) fun hrs => ⟨by omega, by omega, ⟨cm, ca, ro0, by omega, hs.1, by omega, .inl trivial, hmn, hil, hs.2, by omega⟩, fun em1 he1 ra hra => ⟨by omega, by omega, ⟨cm, ca, ro0, by omega, hs.1, by omega, .inr trivial, hmn, hil, hs.2, by omega⟩, fun em2 he2 rb hrb => ?_⟩⟩⟩⟩⟩⟩
  all_goals
    have hrs : s_right k' a' t' ro (s_rem slot n') = true := by rw [← hb]; simpa using hrs
    obtain ⟨la, lb, hh⟩ := tail z hz hrs em1 em2 he1 he2 ra rb hra hrb
    exact br_intro (fun c => (bne_no (L _ la) c).elim) fun _ => br_intro (fun c => (bne_no (L _ lb) c).elim) fun _ => ⟨⟨by omega, by omega, hn2, L _ la, L _ lb, trivial, trivial, hh⟩, trivial⟩
end Go.Proofs.YtiemjcchlfbglaaE
