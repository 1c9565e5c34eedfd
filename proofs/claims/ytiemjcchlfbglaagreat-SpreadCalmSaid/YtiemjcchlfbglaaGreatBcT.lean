/- SpreadCalm: specs. -/
import Derived.Test.YtiemjcchlfbglaaGreatBcO
import Derived.KernelRfl
namespace Go.Proofs.YtiemjcchlfbglaaGreatE
open Go
set_option linter.unusedVariables false

def T0 : Sp := ⟨(42, sWithin) :: Z1.fn, []⟩
def T0L : Sp := ⟨T0.fn, [(25, 3, lText)]⟩
def s6MakeK : SW := fun args h Q => match args, h with
  | [.agg [.int .i64 n, .int .i64 pi, .int .i64 e, .int .i64 g, .int .i64 fi, .row nl [.int .i64] rs], .agg [.int .i64 k, .int .i64 a, .int .i64 f, .int .i64 t, .row nl1 [.int .i64, .int .i64, .str] acts, .row nl2 [.int .i64] ds]], [] =>
    Hyp (6 ≤ n ∧ n ≤ 12) ∧ ∀ (k' a' f' t' : Int) (nl1' nl2' : Bool) (acts' : List (List AV)) (ds' : List Int), s_fok n k' a' f' t' acts' ds' → k' = s_rem k 3 →
      Q (.agg [.int .i64 k', .int .i64 a', .int .i64 f', .int .i64 t', .row nl1' [.int .i64, .int .i64, .str] acts', .row nl2' [.int .i64] (irow .i64 ds')], [])
  | _, _ => False
def sMake9C : SW := fun args h Q => match args, h with
  | [.agg [.int .i64 n0, .int .i64 pi0, .int .i64 e0, .int .i64 g0, .int .i64 fi0, .row nl0 [.int .i64] ps0], .agg [.int .i64 fk, .int .i64 fa, .int .i64 ff, .int .i64 ft, .row nl1 [.int .i64, .int .i64, .str] acts, .row nl2 [.int .i64] ds], .int .i64 round, .int .i64 slot, .bool up, .agg [.int .i64 k, .int .i64 r, .int .i64 sl, .int .i64 pk, .int .i64 pv, .row nl3 [.int .i64, .int .i64] ec], .row nl4 [.int .i64] ns, .bool true], [] =>
    ∀ (n pi e g fi : Int) (nl : Bool) (qs : List Int) (k' a' f' t' : Int) (nl1' nl2' : Bool) (acts' : List (List AV)) (ds' : List Int) (ro sl' dir : Int) (m : Nat) (dv : List Int),
      s_made n pi e g fi qs ∧ s_fok n k' a' f' t' acts' ds' ∧ 0 ≤ ro ∧ ro ≤ 130 ∧ 0 ≤ sl' ∧ sl' < n + qs.length ∧ dir = (if up then 1 else -1) ∧ (m : Int) = n ∧ s_devs pi m dv → k' = s_rem fk 3 →
      (Q (.agg [.int .i64 n, .int .i64 pi, .int .i64 e, .int .i64 g, .int .i64 fi, .row nl [.int .i64] (irow .i64 qs), .int .i64 k', .int .i64 a', .int .i64 f', .int .i64 t', .row nl1' [.int .i64, .int .i64, .str] acts', .row nl2' [.int .i64] (irow .i64 ds'), .int .i64 ro, .int .i64 sl', .int .i64 dir, .nils, .sl 0 0 m, .sl 1 0 m], [.arr 2 3 [.int .i64] (s_rep m 4), .arr 2 3 [.int .i64] (irow .i64 dv)]) ∧
       ∀ rows : List (List AV), rows.length ≤ 2 → s_strs rows → Q (.agg [.int .i64 n, .int .i64 pi, .int .i64 e, .int .i64 g, .int .i64 fi, .row nl [.int .i64] (irow .i64 qs), .int .i64 k', .int .i64 a', .int .i64 f', .int .i64 t', .row nl1' [.int .i64, .int .i64, .str] acts', .row nl2' [.int .i64] (irow .i64 ds'), .int .i64 ro, .int .i64 sl', .int .i64 dir, .sl 0 0 rows.length, .sl 1 0 m, .sl 2 0 m], [.arr 2 9 [.str] rows, .arr 2 3 [.int .i64] (s_rep m 4), .arr 2 3 [.int .i64] (irow .i64 dv)]))
  | _, _ => False
def T1 : Sp := ⟨(29, s6MakeK) :: Y2o.fn, [(9, 11, lMkA), (9, 21, lMkB)]⟩
def T2 : Sp := ⟨(9, sMake9C) :: (25, sText) :: T0.fn, []⟩
end Go.Proofs.YtiemjcchlfbglaaGreatE
/- What path mode says of functions, printed by a program of this session; the kernel holds each. -/
namespace Go.Proofs.YtiemjcchlfbglaaGreatE
open Go
set_option maxRecDepth 100000
set_option linter.unusedVariables false
theorem nfW1 (a n : Int) (Q : AV × List AObj → Prop) : inlW Tryz.prog H0 S0 6 (InO Tryz.prog H0 S0 6 6) 42 [.int .i64 a, .int .i64 n] [] Q = (
chk (n ≠ (0 : Int)) (br (decide (a.tmod n < (0 : Int)))
 (Q ((AV.int IntKind.i64 (IntKind.i64.wrap (a.tmod n + n)), [])))
 (Q ((AV.int IntKind.i64 (a.tmod n), []))))) := by kernel_rfl
theorem nfTx (nl : Bool) (rs : List (List AV)) (Q : AV × List AObj → Prop) : inlW Tryz.prog H0 T0L 6 (InO Tryz.prog H0 T0L 6 6) 25 [.row nl [.int .i64] rs] [] Q = (
((Hyp ((0 : Int) ≤ (0 : Int) ∧ (0 : Int) = (0 : Int) ∧ (0 : Int) ≤ (80 : Int))) ∧
((∀ (t101 : ByteArray),
((t101.size ≤ (80 : Nat)) →
Q ((AV.str t101, []))))))) := by kernel_rfl
theorem nfTxa (i : Int) (s : ByteArray) (nl : Bool) (rs : List (List AV)) (Q : Ex → List AV → List AObj → Prop) : lpBody Tryz.prog H0 T0 6 6 25 3 [.row nl [.int .i64] rs, .str s, .int .i64 i] [] Q = (
br (decide (i < (↑rs.length : Int)))
 (br (decide (i < (80 : Int)))
  (chk ((0 : Int) ≤ i ∧ i < (↑rs.length : Int)) (chk ((0 : Int) ≤ s_rem ((rs.getD i.toNat []).getD (0 : Nat) AV.gone).toI (11 : Int) ∧
  s_rem ((rs.getD i.toNat []).getD (0 : Nat) AV.gone).toI (11 : Int) < (11 : Int)) (chk ((0 : Nat) + (s_rem ((rs.getD i.toNat []).getD (0 : Nat) AV.gone).toI (11 : Int)).toNat < (11 : Nat)) (chk ((s.size +
        (([[AV.str (ByteArray.mk #[(48 : UInt8)])], [AV.str (ByteArray.mk #[(49 : UInt8)])],
                      [AV.str (ByteArray.mk #[(48 : UInt8)])], [AV.str (ByteArray.mk #[(49 : UInt8)])],
                      [AV.str (ByteArray.mk #[(48 : UInt8)])], [AV.str (ByteArray.mk #[(49 : UInt8)])],
                      [AV.str (ByteArray.mk #[(48 : UInt8)])], [AV.str (ByteArray.mk #[(49 : UInt8)])],
                      [AV.str (ByteArray.mk #[(35 : UInt8)])], [AV.str (ByteArray.mk #[(46 : UInt8)])],
                      [AV.str (ByteArray.mk #[(120 : UInt8)])]].getD
                  ((0 : Nat) + (s_rem ((rs.getD i.toNat []).getD (0 : Nat) AV.gone).toI (11 : Int)).toNat) []).getD
              (0 : Nat) AV.gone).toS.size).ble
    (9223372036854775807 : Nat) =
  true) (Q (Ex.nrm) ([AV.row nl [K.int IntKind.i64] rs,
  AV.str
    (s ++
      (([[AV.str (ByteArray.mk #[(48 : UInt8)])], [AV.str (ByteArray.mk #[(49 : UInt8)])],
                  [AV.str (ByteArray.mk #[(48 : UInt8)])], [AV.str (ByteArray.mk #[(49 : UInt8)])],
                  [AV.str (ByteArray.mk #[(48 : UInt8)])], [AV.str (ByteArray.mk #[(49 : UInt8)])],
                  [AV.str (ByteArray.mk #[(48 : UInt8)])], [AV.str (ByteArray.mk #[(49 : UInt8)])],
                  [AV.str (ByteArray.mk #[(35 : UInt8)])], [AV.str (ByteArray.mk #[(46 : UInt8)])],
                  [AV.str (ByteArray.mk #[(120 : UInt8)])]].getD
              ((0 : Nat) + (s_rem ((rs.getD i.toNat []).getD (0 : Nat) AV.gone).toI (11 : Int)).toNat) []).getD
          (0 : Nat) AV.gone).toS),
  AV.int IntKind.i64 (IntKind.i64.wrap (i + (1 : Int)))]) ([]))))))
  (Q (Ex.exit (0 : Nat)) ([AV.str s]) ([])))
 (Q (Ex.exit (0 : Nat)) ([AV.str s]) ([]))) := by kernel_rfl
theorem nfMake9C (n0 pi0 e0 g0 fi0 fk fa ff ft round slot k r sl pk pv : Int) (nl0 nl1 nl2 nl3 nl4 up : Bool) (ps0 acts ds ec ns : List (List AV)) (Q : AV × List AObj → Prop) : inlW Tryz.prog H0 T1 6 (InO Tryz.prog H0 T1 6 6) 9 [cf n0 pi0 e0 g0 fi0 nl0 ps0, .agg [.int .i64 fk, .int .i64 fa, .int .i64 ff, .int .i64 ft, .row nl1 [.int .i64, .int .i64, .str] acts, .row nl2 [.int .i64] ds], .int .i64 round, .int .i64 slot, .bool up, .agg [.int .i64 k, .int .i64 r, .int .i64 sl, .int .i64 pk, .int .i64 pv, .row nl3 [.int .i64, .int .i64] ec], .row nl4 [.int .i64] ns, .bool true] [] Q = (
(∀ (n'100 : Int),
(∀ (pi'101 : Int),
(∀ (e'102 : Int),
(∀ (g'103 : Int),
(∀ (fi'104 : Int),
(∀ (nl'105 : Bool),
(∀ (ps106 : List Int),
((s_made n'100 pi'101 e'102 g'103 fi'104 ps106) →
((Hyp ((6 : Int) ≤ n'100 ∧ n'100 ≤ (12 : Int))) ∧
((∀ (k'109 : Int),
(∀ (a'110 : Int),
(∀ (f'111 : Int),
(∀ (t'112 : Int),
(∀ (nl1'113 : Bool),
(∀ (nl2'114 : Bool),
(∀ (acts'115 : List (List AV)),
(∀ (ds'116 : List Int),
((s_fok n'100 k'109 a'110 f'111 t'112 acts'115 ds'116) →
((k'109 = s_rem fk (3 : Int)) →
chk ((0 : Int) < IntKind.i64.wrap (n'100 + (↑(List.map (fun n => [AV.int IntKind.i64 n]) ps106).length : Int)) ∧
  IntKind.i64.wrap (n'100 + (↑(List.map (fun n => [AV.int IntKind.i64 n]) ps106).length : Int)) <
    (9223372036854775808 : Int)) (br (!up)
 (br (decide (t'112 > f'111))
  (chk ((0 : Int) < IntKind.i64.wrap (t'112 - f'111) ∧ IntKind.i64.wrap (t'112 - f'111) < (9223372036854775808 : Int)) (((Hyp ((6 : Int) ≤ n'100 ∧
  n'100 ≤ (12 : Int) ∧
    (List.map (fun n => [AV.int IntKind.i64 n]) ps106).length ≤ (3 : Nat) ∧
      ∀ (r : List AV), r ∈ irow IntKind.i64 ps106 → ∃ p, r = [AV.int IntKind.i64 p] ∧ (-1 : Int) ≤ p ∧ p < n'100)) ∧
  ((∀ (nl'124 : Bool),
  (∀ (rows125 : List (List AV)),
  ((rows125.length ≤ (2 : Nat)) →
  ((Hyp ((0 : Int) = (0 : Int) ∧
  rows125.length ≤ (2 : Nat) ∧
    (6 : Int) ≤ n'100 ∧ n'100 ≤ (12 : Int) ∧ (List.map (fun n => [AV.int IntKind.i64 n]) ps106).length ≤ (3 : Nat))) ∧
  (((((Hyp ((0 : Int) = (0 : Int) ∧ (6 : Int) ≤ n'100 ∧ n'100 ≤ (12 : Int) ∧ (4 : Int) ≤ pi'101 ∧ pi'101 ≤ (1000 : Int))) ∧
  ((∀ (m'130 : Nat),
  (∀ (dv131 : List Int),
  (((↑m'130 : Int) = n'100) →
  ((s_devs pi'101 m'130 dv131) →
  Q ((AV.agg
    [AV.int IntKind.i64 n'100, AV.int IntKind.i64 pi'101, AV.int IntKind.i64 e'102, AV.int IntKind.i64 g'103,
      AV.int IntKind.i64 fi'104, AV.row nl'105 [K.int IntKind.i64] (List.map (fun n => [AV.int IntKind.i64 n]) ps106),
      AV.int IntKind.i64 k'109, AV.int IntKind.i64 a'110, AV.int IntKind.i64 f'111, AV.int IntKind.i64 t'112,
      AV.row nl1'113 [K.int IntKind.i64, K.int IntKind.i64, K.str] acts'115,
      AV.row nl2'114 [K.int IntKind.i64] (List.map (fun n => [AV.int IntKind.i64 n]) ds'116),
      AV.int IntKind.i64 (IntKind.i64.wrap (f'111 + s_rem round (IntKind.i64.wrap (t'112 - f'111)))),
      AV.int IntKind.i64
        (s_rem slot (IntKind.i64.wrap (n'100 + (↑(List.map (fun n => [AV.int IntKind.i64 n]) ps106).length : Int)))),
      AV.int IntKind.i64 (-1 : Int), AV.nils, AV.sl (0 : Nat) (0 : Nat) m'130, AV.sl (1 : Nat) (0 : Nat) m'130],
  [AObj.arr (2 : Nat) (3 : Nat) [K.int IntKind.i64] (s_rep m'130 (4 : Int)),
    AObj.arr (2 : Nat) (3 : Nat) [K.int IntKind.i64] (List.map (fun n => [AV.int IntKind.i64 n]) dv131)]))))))))) ∧
  ((∀ (rows129 : List (List AV)),
  ((rows129.length ≤ (2 : Nat)) →
  ((s_strs rows129) →
  ((Hyp ((0 : Int) = (0 : Int) ∧ (6 : Int) ≤ n'100 ∧ n'100 ≤ (12 : Int) ∧ (4 : Int) ≤ pi'101 ∧ pi'101 ≤ (1000 : Int))) ∧
  ((∀ (m'133 : Nat),
  (∀ (dv134 : List Int),
  (((↑m'133 : Int) = n'100) →
  ((s_devs pi'101 m'133 dv134) →
  Q ((AV.agg
    [AV.int IntKind.i64 n'100, AV.int IntKind.i64 pi'101, AV.int IntKind.i64 e'102, AV.int IntKind.i64 g'103,
      AV.int IntKind.i64 fi'104, AV.row nl'105 [K.int IntKind.i64] (List.map (fun n => [AV.int IntKind.i64 n]) ps106),
      AV.int IntKind.i64 k'109, AV.int IntKind.i64 a'110, AV.int IntKind.i64 f'111, AV.int IntKind.i64 t'112,
      AV.row nl1'113 [K.int IntKind.i64, K.int IntKind.i64, K.str] acts'115,
      AV.row nl2'114 [K.int IntKind.i64] (List.map (fun n => [AV.int IntKind.i64 n]) ds'116),
      AV.int IntKind.i64 (IntKind.i64.wrap (f'111 + s_rem round (IntKind.i64.wrap (t'112 - f'111)))),
      AV.int IntKind.i64
        (s_rem slot (IntKind.i64.wrap (n'100 + (↑(List.map (fun n => [AV.int IntKind.i64 n]) ps106).length : Int)))),
      AV.int IntKind.i64 (-1 : Int), AV.sl (0 : Nat) (0 : Nat) rows129.length, AV.sl (1 : Nat) (0 : Nat) m'133,
      AV.sl (2 : Nat) (0 : Nat) m'133],
  [AObj.arr (2 : Nat) (9 : Nat) [K.str] rows129,
    AObj.arr (2 : Nat) (3 : Nat) [K.int IntKind.i64] (s_rep m'133 (4 : Int)),
    AObj.arr (2 : Nat) (3 : Nat) [K.int IntKind.i64] (List.map (fun n => [AV.int IntKind.i64 n]) dv134)]))))))))))))))))))))))
  (((Hyp ((6 : Int) ≤ n'100 ∧
  n'100 ≤ (12 : Int) ∧
    (List.map (fun n => [AV.int IntKind.i64 n]) ps106).length ≤ (3 : Nat) ∧
      ∀ (r : List AV), r ∈ irow IntKind.i64 ps106 → ∃ p, r = [AV.int IntKind.i64 p] ∧ (-1 : Int) ≤ p ∧ p < n'100)) ∧
  ((∀ (nl'123 : Bool),
  (∀ (rows124 : List (List AV)),
  ((rows124.length ≤ (2 : Nat)) →
  ((Hyp ((0 : Int) = (0 : Int) ∧
  rows124.length ≤ (2 : Nat) ∧
    (6 : Int) ≤ n'100 ∧ n'100 ≤ (12 : Int) ∧ (List.map (fun n => [AV.int IntKind.i64 n]) ps106).length ≤ (3 : Nat))) ∧
  (((((Hyp ((0 : Int) = (0 : Int) ∧ (6 : Int) ≤ n'100 ∧ n'100 ≤ (12 : Int) ∧ (4 : Int) ≤ pi'101 ∧ pi'101 ≤ (1000 : Int))) ∧
  ((∀ (m'129 : Nat),
  (∀ (dv130 : List Int),
  (((↑m'129 : Int) = n'100) →
  ((s_devs pi'101 m'129 dv130) →
  Q ((AV.agg
    [AV.int IntKind.i64 n'100, AV.int IntKind.i64 pi'101, AV.int IntKind.i64 e'102, AV.int IntKind.i64 g'103,
      AV.int IntKind.i64 fi'104, AV.row nl'105 [K.int IntKind.i64] (List.map (fun n => [AV.int IntKind.i64 n]) ps106),
      AV.int IntKind.i64 k'109, AV.int IntKind.i64 a'110, AV.int IntKind.i64 f'111, AV.int IntKind.i64 t'112,
      AV.row nl1'113 [K.int IntKind.i64, K.int IntKind.i64, K.str] acts'115,
      AV.row nl2'114 [K.int IntKind.i64] (List.map (fun n => [AV.int IntKind.i64 n]) ds'116),
      AV.int IntKind.i64 (s_rem round (130 : Int)),
      AV.int IntKind.i64
        (s_rem slot (IntKind.i64.wrap (n'100 + (↑(List.map (fun n => [AV.int IntKind.i64 n]) ps106).length : Int)))),
      AV.int IntKind.i64 (-1 : Int), AV.nils, AV.sl (0 : Nat) (0 : Nat) m'129, AV.sl (1 : Nat) (0 : Nat) m'129],
  [AObj.arr (2 : Nat) (3 : Nat) [K.int IntKind.i64] (s_rep m'129 (4 : Int)),
    AObj.arr (2 : Nat) (3 : Nat) [K.int IntKind.i64] (List.map (fun n => [AV.int IntKind.i64 n]) dv130)]))))))))) ∧
  ((∀ (rows128 : List (List AV)),
  ((rows128.length ≤ (2 : Nat)) →
  ((s_strs rows128) →
  ((Hyp ((0 : Int) = (0 : Int) ∧ (6 : Int) ≤ n'100 ∧ n'100 ≤ (12 : Int) ∧ (4 : Int) ≤ pi'101 ∧ pi'101 ≤ (1000 : Int))) ∧
  ((∀ (m'132 : Nat),
  (∀ (dv133 : List Int),
  (((↑m'132 : Int) = n'100) →
  ((s_devs pi'101 m'132 dv133) →
  Q ((AV.agg
    [AV.int IntKind.i64 n'100, AV.int IntKind.i64 pi'101, AV.int IntKind.i64 e'102, AV.int IntKind.i64 g'103,
      AV.int IntKind.i64 fi'104, AV.row nl'105 [K.int IntKind.i64] (List.map (fun n => [AV.int IntKind.i64 n]) ps106),
      AV.int IntKind.i64 k'109, AV.int IntKind.i64 a'110, AV.int IntKind.i64 f'111, AV.int IntKind.i64 t'112,
      AV.row nl1'113 [K.int IntKind.i64, K.int IntKind.i64, K.str] acts'115,
      AV.row nl2'114 [K.int IntKind.i64] (List.map (fun n => [AV.int IntKind.i64 n]) ds'116),
      AV.int IntKind.i64 (s_rem round (130 : Int)),
      AV.int IntKind.i64
        (s_rem slot (IntKind.i64.wrap (n'100 + (↑(List.map (fun n => [AV.int IntKind.i64 n]) ps106).length : Int)))),
      AV.int IntKind.i64 (-1 : Int), AV.sl (0 : Nat) (0 : Nat) rows128.length, AV.sl (1 : Nat) (0 : Nat) m'132,
      AV.sl (2 : Nat) (0 : Nat) m'132],
  [AObj.arr (2 : Nat) (9 : Nat) [K.str] rows128,
    AObj.arr (2 : Nat) (3 : Nat) [K.int IntKind.i64] (s_rep m'132 (4 : Int)),
    AObj.arr (2 : Nat) (3 : Nat) [K.int IntKind.i64] (List.map (fun n => [AV.int IntKind.i64 n]) dv133)]))))))))))))))))))))))
 (br (decide (t'112 > f'111))
  (chk ((0 : Int) < IntKind.i64.wrap (t'112 - f'111) ∧ IntKind.i64.wrap (t'112 - f'111) < (9223372036854775808 : Int)) (((Hyp ((6 : Int) ≤ n'100 ∧
  n'100 ≤ (12 : Int) ∧
    (List.map (fun n => [AV.int IntKind.i64 n]) ps106).length ≤ (3 : Nat) ∧
      ∀ (r : List AV), r ∈ irow IntKind.i64 ps106 → ∃ p, r = [AV.int IntKind.i64 p] ∧ (-1 : Int) ≤ p ∧ p < n'100)) ∧
  ((∀ (nl'124 : Bool),
  (∀ (rows125 : List (List AV)),
  ((rows125.length ≤ (2 : Nat)) →
  ((Hyp ((0 : Int) = (0 : Int) ∧
  rows125.length ≤ (2 : Nat) ∧
    (6 : Int) ≤ n'100 ∧ n'100 ≤ (12 : Int) ∧ (List.map (fun n => [AV.int IntKind.i64 n]) ps106).length ≤ (3 : Nat))) ∧
  (((((Hyp ((0 : Int) = (0 : Int) ∧ (6 : Int) ≤ n'100 ∧ n'100 ≤ (12 : Int) ∧ (4 : Int) ≤ pi'101 ∧ pi'101 ≤ (1000 : Int))) ∧
  ((∀ (m'130 : Nat),
  (∀ (dv131 : List Int),
  (((↑m'130 : Int) = n'100) →
  ((s_devs pi'101 m'130 dv131) →
  Q ((AV.agg
    [AV.int IntKind.i64 n'100, AV.int IntKind.i64 pi'101, AV.int IntKind.i64 e'102, AV.int IntKind.i64 g'103,
      AV.int IntKind.i64 fi'104, AV.row nl'105 [K.int IntKind.i64] (List.map (fun n => [AV.int IntKind.i64 n]) ps106),
      AV.int IntKind.i64 k'109, AV.int IntKind.i64 a'110, AV.int IntKind.i64 f'111, AV.int IntKind.i64 t'112,
      AV.row nl1'113 [K.int IntKind.i64, K.int IntKind.i64, K.str] acts'115,
      AV.row nl2'114 [K.int IntKind.i64] (List.map (fun n => [AV.int IntKind.i64 n]) ds'116),
      AV.int IntKind.i64 (IntKind.i64.wrap (f'111 + s_rem round (IntKind.i64.wrap (t'112 - f'111)))),
      AV.int IntKind.i64
        (s_rem slot (IntKind.i64.wrap (n'100 + (↑(List.map (fun n => [AV.int IntKind.i64 n]) ps106).length : Int)))),
      AV.int IntKind.i64 (1 : Int), AV.nils, AV.sl (0 : Nat) (0 : Nat) m'130, AV.sl (1 : Nat) (0 : Nat) m'130],
  [AObj.arr (2 : Nat) (3 : Nat) [K.int IntKind.i64] (s_rep m'130 (4 : Int)),
    AObj.arr (2 : Nat) (3 : Nat) [K.int IntKind.i64] (List.map (fun n => [AV.int IntKind.i64 n]) dv131)]))))))))) ∧
  ((∀ (rows129 : List (List AV)),
  ((rows129.length ≤ (2 : Nat)) →
  ((s_strs rows129) →
  ((Hyp ((0 : Int) = (0 : Int) ∧ (6 : Int) ≤ n'100 ∧ n'100 ≤ (12 : Int) ∧ (4 : Int) ≤ pi'101 ∧ pi'101 ≤ (1000 : Int))) ∧
  ((∀ (m'133 : Nat),
  (∀ (dv134 : List Int),
  (((↑m'133 : Int) = n'100) →
  ((s_devs pi'101 m'133 dv134) →
  Q ((AV.agg
    [AV.int IntKind.i64 n'100, AV.int IntKind.i64 pi'101, AV.int IntKind.i64 e'102, AV.int IntKind.i64 g'103,
      AV.int IntKind.i64 fi'104, AV.row nl'105 [K.int IntKind.i64] (List.map (fun n => [AV.int IntKind.i64 n]) ps106),
      AV.int IntKind.i64 k'109, AV.int IntKind.i64 a'110, AV.int IntKind.i64 f'111, AV.int IntKind.i64 t'112,
      AV.row nl1'113 [K.int IntKind.i64, K.int IntKind.i64, K.str] acts'115,
      AV.row nl2'114 [K.int IntKind.i64] (List.map (fun n => [AV.int IntKind.i64 n]) ds'116),
      AV.int IntKind.i64 (IntKind.i64.wrap (f'111 + s_rem round (IntKind.i64.wrap (t'112 - f'111)))),
      AV.int IntKind.i64
        (s_rem slot (IntKind.i64.wrap (n'100 + (↑(List.map (fun n => [AV.int IntKind.i64 n]) ps106).length : Int)))),
      AV.int IntKind.i64 (1 : Int), AV.sl (0 : Nat) (0 : Nat) rows129.length, AV.sl (1 : Nat) (0 : Nat) m'133,
      AV.sl (2 : Nat) (0 : Nat) m'133],
  [AObj.arr (2 : Nat) (9 : Nat) [K.str] rows129,
    AObj.arr (2 : Nat) (3 : Nat) [K.int IntKind.i64] (s_rep m'133 (4 : Int)),
    AObj.arr (2 : Nat) (3 : Nat) [K.int IntKind.i64] (List.map (fun n => [AV.int IntKind.i64 n]) dv134)]))))))))))))))))))))))
  (((Hyp ((6 : Int) ≤ n'100 ∧
  n'100 ≤ (12 : Int) ∧
    (List.map (fun n => [AV.int IntKind.i64 n]) ps106).length ≤ (3 : Nat) ∧
      ∀ (r : List AV), r ∈ irow IntKind.i64 ps106 → ∃ p, r = [AV.int IntKind.i64 p] ∧ (-1 : Int) ≤ p ∧ p < n'100)) ∧
  ((∀ (nl'123 : Bool),
  (∀ (rows124 : List (List AV)),
  ((rows124.length ≤ (2 : Nat)) →
  ((Hyp ((0 : Int) = (0 : Int) ∧
  rows124.length ≤ (2 : Nat) ∧
    (6 : Int) ≤ n'100 ∧ n'100 ≤ (12 : Int) ∧ (List.map (fun n => [AV.int IntKind.i64 n]) ps106).length ≤ (3 : Nat))) ∧
  (((((Hyp ((0 : Int) = (0 : Int) ∧ (6 : Int) ≤ n'100 ∧ n'100 ≤ (12 : Int) ∧ (4 : Int) ≤ pi'101 ∧ pi'101 ≤ (1000 : Int))) ∧
  ((∀ (m'129 : Nat),
  (∀ (dv130 : List Int),
  (((↑m'129 : Int) = n'100) →
  ((s_devs pi'101 m'129 dv130) →
  Q ((AV.agg
    [AV.int IntKind.i64 n'100, AV.int IntKind.i64 pi'101, AV.int IntKind.i64 e'102, AV.int IntKind.i64 g'103,
      AV.int IntKind.i64 fi'104, AV.row nl'105 [K.int IntKind.i64] (List.map (fun n => [AV.int IntKind.i64 n]) ps106),
      AV.int IntKind.i64 k'109, AV.int IntKind.i64 a'110, AV.int IntKind.i64 f'111, AV.int IntKind.i64 t'112,
      AV.row nl1'113 [K.int IntKind.i64, K.int IntKind.i64, K.str] acts'115,
      AV.row nl2'114 [K.int IntKind.i64] (List.map (fun n => [AV.int IntKind.i64 n]) ds'116),
      AV.int IntKind.i64 (s_rem round (130 : Int)),
      AV.int IntKind.i64
        (s_rem slot (IntKind.i64.wrap (n'100 + (↑(List.map (fun n => [AV.int IntKind.i64 n]) ps106).length : Int)))),
      AV.int IntKind.i64 (1 : Int), AV.nils, AV.sl (0 : Nat) (0 : Nat) m'129, AV.sl (1 : Nat) (0 : Nat) m'129],
  [AObj.arr (2 : Nat) (3 : Nat) [K.int IntKind.i64] (s_rep m'129 (4 : Int)),
    AObj.arr (2 : Nat) (3 : Nat) [K.int IntKind.i64] (List.map (fun n => [AV.int IntKind.i64 n]) dv130)]))))))))) ∧
  ((∀ (rows128 : List (List AV)),
  ((rows128.length ≤ (2 : Nat)) →
  ((s_strs rows128) →
  ((Hyp ((0 : Int) = (0 : Int) ∧ (6 : Int) ≤ n'100 ∧ n'100 ≤ (12 : Int) ∧ (4 : Int) ≤ pi'101 ∧ pi'101 ≤ (1000 : Int))) ∧
  ((∀ (m'132 : Nat),
  (∀ (dv133 : List Int),
  (((↑m'132 : Int) = n'100) →
  ((s_devs pi'101 m'132 dv133) →
  Q ((AV.agg
    [AV.int IntKind.i64 n'100, AV.int IntKind.i64 pi'101, AV.int IntKind.i64 e'102, AV.int IntKind.i64 g'103,
      AV.int IntKind.i64 fi'104, AV.row nl'105 [K.int IntKind.i64] (List.map (fun n => [AV.int IntKind.i64 n]) ps106),
      AV.int IntKind.i64 k'109, AV.int IntKind.i64 a'110, AV.int IntKind.i64 f'111, AV.int IntKind.i64 t'112,
      AV.row nl1'113 [K.int IntKind.i64, K.int IntKind.i64, K.str] acts'115,
      AV.row nl2'114 [K.int IntKind.i64] (List.map (fun n => [AV.int IntKind.i64 n]) ds'116),
      AV.int IntKind.i64 (s_rem round (130 : Int)),
      AV.int IntKind.i64
        (s_rem slot (IntKind.i64.wrap (n'100 + (↑(List.map (fun n => [AV.int IntKind.i64 n]) ps106).length : Int)))),
      AV.int IntKind.i64 (1 : Int), AV.sl (0 : Nat) (0 : Nat) rows128.length, AV.sl (1 : Nat) (0 : Nat) m'132,
      AV.sl (2 : Nat) (0 : Nat) m'132],
  [AObj.arr (2 : Nat) (9 : Nat) [K.str] rows128,
    AObj.arr (2 : Nat) (3 : Nat) [K.int IntKind.i64] (s_rep m'132 (4 : Int)),
    AObj.arr (2 : Nat) (3 : Nat) [K.int IntKind.i64] (List.map (fun n => [AV.int IntKind.i64 n]) dv133)])))))))))))))))))))))))))))))))))))))))))))) := by kernel_rfl
end Go.Proofs.YtiemjcchlfbglaaGreatE
/- SpreadCalm: the specs hold. -/
namespace Go.Proofs.YtiemjcchlfbglaaGreatE
open Go
set_option linter.unusedVariables false
set_option linter.unusedSimpArgs false
set_option maxRecDepth 100000

theorem okT0 : OkSp Tryz.prog H0 T0 := ⟨⟨within_ok nfW1, okZ1.fn⟩, trivial⟩
theorem okLText : OkLp Tryz.prog H0 25 3 lText := by
  refine okLp_of (U := 6) (k := 6) okT0 lText (fun vals _ => match vals with | [_, _, .int _ i] => (80 - i).toNat | _ => 0) fun vals h Q hl => ?_
  unfold lText at hl
  split at hl
  · rename_i nl rs s i
    obtain ⟨⟨h0, h1, h2⟩, hq⟩ := hyp_iff.1 hl
    refine to (nfTxa ..) ?_
    refine br_intro (fun hc => br_intro (fun hc2 => ?_) fun hc2 => hq s (by omega)) fun hc => hq s (by omega)
    have hc := of_decide_eq_true hc
    have hc2 := of_decide_eq_true hc2
    generalize hx : s_rem ((rs.getD i.toNat []).getD 0 AV.gone).toI 11 = x
    have hr := rem_lt ((rs.getD i.toNat []).getD 0 AV.gone).toI (show (0 : Int) < 11 by omega)
    rw [hx] at hr
    obtain ⟨y, hy, rfl⟩ : ∃ y : Nat, y < 11 ∧ x = y := ⟨x.toNat, by omega, by omega⟩
    refine chk_iff.2 ⟨⟨h0, hc⟩, chk_iff.2 ⟨by simpa only [Nat.zero_add] using ⟨by omega, by omega⟩, chk_iff.2 ⟨by simpa using hy, ?_⟩⟩⟩
    have hsz : ∀ y : Nat, y < 11 → (([[AV.str { data := #[(48 : UInt8)] }], [AV.str { data := #[(49 : UInt8)] }],
                      [AV.str { data := #[(48 : UInt8)] }], [AV.str { data := #[(49 : UInt8)] }],
                      [AV.str { data := #[(48 : UInt8)] }], [AV.str { data := #[(49 : UInt8)] }],
                      [AV.str { data := #[(48 : UInt8)] }], [AV.str { data := #[(49 : UInt8)] }],
                      [AV.str { data := #[(35 : UInt8)] }], [AV.str { data := #[(46 : UInt8)] }],
                      [AV.str { data := #[(120 : UInt8)] }]].getD
                  ((0 : Nat) + (y : Int).toNat) []).getD
              (0 : Nat) AV.gone).toS.size = 1 := by decide +kernel
    have w2 : IntKind.i64.wrap (i + 1) = i + 1 := wr (by omega) (by omega)
    rw [w2]
    have key : ∀ u : ByteArray, u.size = 1 → chk (Nat.ble (s.size + u.size) 9223372036854775807 = true) (stepQ lText (fun vals _ => match vals with | [_, _, .int _ i] => (80 - i).toNat | _ => 0) [.row nl [.int .i64] rs, .str s, .int .i64 i] [] Q .nrm [.row nl [.int .i64] rs, .str (s ++ u), .int .i64 (i + 1)] []) := by
      intro u hu
      refine chk_iff.2 ⟨by rw [Nat.ble_eq]; omega, by show (80 - (i + 1)).toNat < (80 - i).toNat; omega, hyp_iff.2 ⟨⟨by omega, ?_, by omega⟩, hq⟩⟩
      rw [ByteArray.size_append, hu]; omega
    exact key _ (hsz y hy)
  · exact hl.elim
theorem okT0L : OkSp Tryz.prog H0 T0L := ⟨okT0.fn, okLText, trivial⟩
theorem okTx : OkS Tryz.prog H0 25 sText := by
  intro args h Q hq
  unfold sText at hq
  split at hq
  · exact in_ok (S := T0L) (U := 6) (k := 6) okT0L (to (nfTx ..) (hyp_iff.2 ⟨⟨by decide, by decide, by decide⟩, hq⟩))
  · exact hq.elim
theorem okFMakeK : OkS Tryz.prog H0 29 s6MakeK := by
  intro args h Q hq
  unfold s6MakeK at hq
  split at hq
  · rename_i n pi e g fi nl rs k a f t nl1 acts nl2 ds
    obtain ⟨h0, hQ⟩ := hyp_iff.1 hq
    refine in_ok (S := S8) (U := 6) (k := 6) okS8 (to (nfFMake ..) ?_)
    have r1 := rem_lt k (show (0 : Int) < 3 by omega)
    have r2 := rem_lt f (show (0 : Int) < 60 by omega)
    have r3 := rem_lt t (show (0 : Int) < 60 by omega)
    have r4 := rem_lt a (show (0 : Int) < n by omega)
    have r5 := rem_lt a (show (0 : Int) < 2 * n by omega)
    rw [wr (x := 2 * n) (by omega) (by omega), wr (x := s_rem f 60 + s_rem t 60) (by omega) (by omega)]
    have take : ∀ ps : List Int, List.take ps.length (List.drop 0 (List.map (fun n => [AV.int IntKind.i64 n]) ps)) = irow .i64 ps := fun ps => by
      rw [List.drop_zero, List.take_of_length_le (by simp)]; rfl
    have take2 : ∀ l : List (List AV), List.take l.length (List.drop 0 l) = l := fun l => by rw [List.drop_zero, List.take_length]
    have take3 : ∀ ps : List Int, 0 + ps.length ≤ (List.map (fun n => [AV.int IntKind.i64 n]) ps).length := fun ps => by simp
    have take4 : ∀ l : List (List AV), 0 + l.length ≤ l.length := fun l => by omega
    -- the four ends, whatever the place is
    have fin : ∀ (kk aa : Int), 0 ≤ kk → kk ≤ 2 → (kk = 0 → aa = 0) → (kk = 1 → 0 ≤ aa ∧ aa < n) → (kk = 2 → 0 ≤ aa ∧ aa < 2 * n) → kk = s_rem k 3 →
        ((Q (.agg [.int .i64 kk, .int .i64 aa, .int .i64 (s_rem f 60), .int .i64 (s_rem f 60 + s_rem t 60), .row true [.int .i64, .int .i64, .str] [], .row true [.int .i64] []], [])) ∧
        (∀ zs : List Int, zs.length ≤ 10 → Q (.agg [.int .i64 kk, .int .i64 aa, .int .i64 (s_rem f 60), .int .i64 (s_rem f 60 + s_rem t 60), .row true [.int .i64, .int .i64, .str] [], .row false [.int .i64] (irow .i64 zs)], [])) ∧
        (∀ rows : List (List AV), rows.length ≤ 10 → (∀ r ∈ rows, s_actR r) → Q (.agg [.int .i64 kk, .int .i64 aa, .int .i64 (s_rem f 60), .int .i64 (s_rem f 60 + s_rem t 60), .row false [.int .i64, .int .i64, .str] rows, .row true [.int .i64] []], [])) ∧
        (∀ rows : List (List AV), rows.length ≤ 10 → (∀ r ∈ rows, s_actR r) → ∀ zs : List Int, zs.length ≤ 10 → Q (.agg [.int .i64 kk, .int .i64 aa, .int .i64 (s_rem f 60), .int .i64 (s_rem f 60 + s_rem t 60), .row false [.int .i64, .int .i64, .str] rows, .row false [.int .i64] (irow .i64 zs)], []))) := by
      intro kk aa a1 a2 a3 a4 a5 a6
      refine ⟨hQ _ _ _ _ true true [] [] ?_ a6, fun zs hz => hQ _ _ _ _ true false [] zs ?_ a6, fun rows hr ha => hQ _ _ _ _ false true rows [] ?_ a6, fun rows hr ha zs hz => hQ _ _ _ _ false false rows zs ?_ a6⟩
      all_goals refine ⟨a1, a2, by omega, by omega, by omega, by omega, a3, a4, a5, ?_⟩
      · exact ⟨by simp, fun r hr => by simp at hr, by simp⟩
      · exact ⟨by simp, fun r hr => by simp at hr, hz⟩
      · exact ⟨hr, ha, by simp⟩
      · exact ⟨hr, ha, hz⟩
    refine br_intro (fun c => chk_iff.2 ⟨by omega, ?_⟩) fun c => br_intro (fun c2 => chk_iff.2 ⟨by omega, ?_⟩) fun c2 => ?_
    · have c := beq_iff_eq.1 c
      obtain ⟨e1, e2, e3, e4⟩ := fin (s_rem k 3) (s_rem a n) r1.1 (by omega) (by omega) (fun _ => r4) (by omega) rfl
      refine ⟨.mk rfl, ⟨.mk rfl, e1, fun zs hz => chk_iff.2 ⟨take3 zs, ?_⟩⟩, fun rows hr ha => ⟨.mk rfl, chk_iff.2 ⟨take4 rows, ?_⟩, fun zs hz => chk_iff.2 ⟨take4 rows, chk_iff.2 ⟨take3 zs, ?_⟩⟩⟩⟩
      · rw [take]; exact e2 zs hz
      · rw [take2]; exact e3 rows hr ha
      · rw [take, take2]; exact e4 rows hr ha zs hz
    · have c2 := beq_iff_eq.1 c2
      obtain ⟨e1, e2, e3, e4⟩ := fin (s_rem k 3) (s_rem a (2 * n)) r1.1 (by omega) (by omega) (by omega) (fun _ => r5) rfl
      refine ⟨.mk rfl, ⟨.mk rfl, e1, fun zs hz => chk_iff.2 ⟨take3 zs, ?_⟩⟩, fun rows hr ha => ⟨.mk rfl, chk_iff.2 ⟨take4 rows, ?_⟩, fun zs hz => chk_iff.2 ⟨take4 rows, chk_iff.2 ⟨take3 zs, ?_⟩⟩⟩⟩
      · rw [take]; exact e2 zs hz
      · rw [take2]; exact e3 rows hr ha
      · rw [take, take2]; exact e4 rows hr ha zs hz
    · have c := beq_eq_false_iff_ne.1 c
      have c2 := beq_eq_false_iff_ne.1 c2
      obtain ⟨e1, e2, e3, e4⟩ := fin (s_rem k 3) 0 r1.1 (by omega) (fun _ => rfl) (by omega) (by omega) rfl
      refine ⟨.mk rfl, ⟨.mk rfl, e1, fun zs hz => chk_iff.2 ⟨take3 zs, ?_⟩⟩, fun rows hr ha => ⟨.mk rfl, chk_iff.2 ⟨take4 rows, ?_⟩, fun zs hz => chk_iff.2 ⟨take4 rows, chk_iff.2 ⟨take3 zs, ?_⟩⟩⟩⟩
      · rw [take]; exact e2 zs hz
      · rw [take2]; exact e3 rows hr ha
      · rw [take, take2]; exact e4 rows hr ha zs hz
  · exact hq.elim
theorem okT1 : OkSp Tryz.prog H0 T1 := ⟨⟨okFMakeK, okY2o.fn⟩, okLMkA, okLMkB, trivial⟩
theorem okMake9C : OkS Tryz.prog H0 9 sMake9C := by
  intro args h Q hq
  unfold sMake9C at hq
  split at hq
  · rename_i n0 pi0 e0 g0 fi0 nl0 ps0 fk fa ff ft nl1 acts nl2 ds round slot up k r sl pk pv nl3 ec nl4 ns
    refine in_ok (S := T1) (U := 6) (k := 6) okT1 (to (nfMake9C ..) ?_)
    intro n pi e g fi nl qs hmd
    have n1 := hmd.1
    have n2 := hmd.2.1
    have hp := madeR hmd
    have hql : qs.length ≤ 3 := by unfold s_made at hmd; omega
    have hqb : ∀ r ∈ irow .i64 qs, ∃ p : Int, r = [.int .i64 p] ∧ -1 ≤ p ∧ p < n := fun r hr => by
      obtain ⟨p, hp, rfl⟩ := List.mem_map.1 hr
      have := hmd.2.2.2.2.2.2.2.2.2.2.2 p hp
      exact ⟨p, rfl, this⟩
    refine hyp_iff.2 ⟨⟨n1, n2⟩, fun k' a' f' t' nl1' nl2' acts' ds' hf hk => ?_⟩
    have hf2 : 0 ≤ f' ∧ f' < 60 ∧ f' ≤ t' ∧ t' < f' + 60 := by unfold s_fok at hf; omega
    have hlen : (List.map (fun n => [AV.int IntKind.i64 n]) qs).length = qs.length := List.length_map ..
    have wn : IntKind.i64.wrap (n + (qs.length : Int)) = n + qs.length := wr (by omega) (by omega)
    have wt : IntKind.i64.wrap (t' - f') = t' - f' := wr (by omega) (by omega)
    have hs := rem_lt slot (show 0 < n + (qs.length : Int) by omega)
    have h130 := rem_lt round (show (0 : Int) < 130 by omega)
    rw [hlen, wn, wt, chk_iff]
    have fin : ∀ (ro dir : Int), 0 ≤ ro → ro ≤ 130 → dir = (if up then 1 else -1) → ∀ (m : Nat) (dv : List Int), (m : Int) = n → s_devs pi m dv → _ := fun ro dir a1 a2 a3 m dv a4 a5 =>
      hq n pi e g fi nl qs k' a' f' t' nl1' nl2' acts' ds' ro (s_rem slot (n + qs.length)) dir m dv ⟨hmd, hf, a1, a2, hs.1, hs.2, a3, a4, a5⟩ hk
    refine ⟨⟨by omega, by omega⟩, br_intro (fun u => br_intro (fun c => ?_) fun c => ?_) fun u => br_intro (fun c => ?_) fun c => ?_⟩
    · have c := of_decide_eq_true c
      have hr := rem_lt round (show 0 < t' - f' by omega)
      have u : up = false := by simpa using u
      rw [wr (x := f' + s_rem round (t' - f')) (by omega) (by omega), chk_iff]
      exact ⟨⟨by omega, by omega⟩, hyp_iff.2 ⟨⟨n1, n2, hql, hqb⟩, fun nlo os hos => hyp_iff.2 ⟨⟨rfl, hos, n1, n2, hql⟩, hyp_iff.2 ⟨⟨rfl, n1, n2, hp⟩, fun m dv a b => (fin _ _ (by omega) (by omega) (by rw [u]; rfl) m dv a b).1⟩, fun rows r1 r2 => hyp_iff.2 ⟨⟨rfl, n1, n2, hp⟩, fun m dv a b => (fin _ _ (by omega) (by omega) (by rw [u]; rfl) m dv a b).2 rows r1 r2⟩⟩⟩⟩
    · have u : up = false := by simpa using u
      exact hyp_iff.2 ⟨⟨n1, n2, hql, hqb⟩, fun nlo os hos => hyp_iff.2 ⟨⟨rfl, hos, n1, n2, hql⟩, hyp_iff.2 ⟨⟨rfl, n1, n2, hp⟩, fun m dv a b => (fin _ _ (by omega) (by omega) (by rw [u]; rfl) m dv a b).1⟩, fun rows r1 r2 => hyp_iff.2 ⟨⟨rfl, n1, n2, hp⟩, fun m dv a b => (fin _ _ (by omega) (by omega) (by rw [u]; rfl) m dv a b).2 rows r1 r2⟩⟩⟩
    · have c := of_decide_eq_true c
      have hr := rem_lt round (show 0 < t' - f' by omega)
      have u : up = true := by simpa using u
      rw [wr (x := f' + s_rem round (t' - f')) (by omega) (by omega), chk_iff]
      exact ⟨⟨by omega, by omega⟩, hyp_iff.2 ⟨⟨n1, n2, hql, hqb⟩, fun nlo os hos => hyp_iff.2 ⟨⟨rfl, hos, n1, n2, hql⟩, hyp_iff.2 ⟨⟨rfl, n1, n2, hp⟩, fun m dv a b => (fin _ _ (by omega) (by omega) (by rw [u]; rfl) m dv a b).1⟩, fun rows r1 r2 => hyp_iff.2 ⟨⟨rfl, n1, n2, hp⟩, fun m dv a b => (fin _ _ (by omega) (by omega) (by rw [u]; rfl) m dv a b).2 rows r1 r2⟩⟩⟩⟩
    · have u : up = true := by simpa using u
      exact hyp_iff.2 ⟨⟨n1, n2, hql, hqb⟩, fun nlo os hos => hyp_iff.2 ⟨⟨rfl, hos, n1, n2, hql⟩, hyp_iff.2 ⟨⟨rfl, n1, n2, hp⟩, fun m dv a b => (fin _ _ (by omega) (by omega) (by rw [u]; rfl) m dv a b).1⟩, fun rows r1 r2 => hyp_iff.2 ⟨⟨rfl, n1, n2, hp⟩, fun m dv a b => (fin _ _ (by omega) (by omega) (by rw [u]; rfl) m dv a b).2 rows r1 r2⟩⟩⟩
  · exact hq.elim
theorem okT2 : OkSp Tryz.prog H0 T2 := ⟨⟨okMake9C, okTx, okT0.fn⟩, trivial⟩
end Go.Proofs.YtiemjcchlfbglaaGreatE
/- SpreadCalm: its loops' specs. -/
namespace Go.Proofs.YtiemjcchlfbglaaGreatE
open Go
set_option linter.unusedVariables false

def s_isDev (pi : Int) (m : Nat) (dvs : List (List AV)) : Prop := ∃ dv, dvs = irow .i64 dv ∧ s_devs pi m dv
def lCd : LW := fun vals h Q => match vals, h with
  | [.row nl5 [.int .i64] raw, .ptr 0 0, .str s, .int .i64 i], [.box [.int .i64 n, .int .i64 pi, .int .i64 e, .int .i64 g, .int .i64 fi, .row nl [.int .i64] ps, .int .i64 fk, .int .i64 fa, .int .i64 ff, .int .i64 ft, .row nl3 [.int .i64, .int .i64, .str] acts, .row nl4 [.int .i64] ds, .int .i64 ro, .int .i64 sl, .int .i64 dir, .sl 1 0 1, .sl 2 0 m1, .sl 3 0 m2], .arr 2 9 [.str] [[.str z]], .arr 2 3 [.int .i64] sts, .arr 2 3 [.int .i64] dvs] => Hyp (0 ≤ i ∧ i ≤ n ∧ n ≤ 12 ∧ 4 ≤ pi ∧ pi ≤ 1000 ∧ (m2 : Int) = n ∧ s_isDev pi m2 dvs) ∧ ∀ dvs', s_isDev pi m2 dvs' → Q (.exit 0) [.ptr 0 0, .str s] [.box [.int .i64 n, .int .i64 pi, .int .i64 e, .int .i64 g, .int .i64 fi, .row nl [.int .i64] ps, .int .i64 fk, .int .i64 fa, .int .i64 ff, .int .i64 ft, .row nl3 [.int .i64, .int .i64, .str] acts, .row nl4 [.int .i64] ds, .int .i64 ro, .int .i64 sl, .int .i64 dir, .sl 1 0 1, .sl 2 0 m1, .sl 3 0 m2], .arr 2 9 [.str] [[.str z]], .arr 2 3 [.int .i64] sts, .arr 2 3 [.int .i64] dvs']
  | _, _ => False
def s_calmOk (n sl dir : Int) (s : ByteArray) (rows : List (List AV)) : Prop := ∀ j : Int, 0 ≤ j → j < n → ∃ (d k : ByteArray), rows.getD j.toNat [] = [.str d, .str k, .str s, .int .i64 (s_far n sl dir j)] ∧ (0 < s_far n sl dir j → d = s) ∧ (1 < s_far n sl dir j → k = s) ∧ (s_far n sl dir j = 1 → k = ⟨#[]⟩)
def lCl : LW := fun vals h Q => match vals, h with
  | [.ptr 0 0, .str s, .row nw [.str, .str, .str, .int .i64] rows, .int .i64 i], [.box [.int .i64 n, .int .i64 pi, .int .i64 e, .int .i64 g, .int .i64 fi, .row nl [.int .i64] ps, .int .i64 fk, .int .i64 fa, .int .i64 ff, .int .i64 ft, .row nl3 [.int .i64, .int .i64, .str] acts, .row nl4 [.int .i64] ds, .int .i64 ro, .int .i64 sl, .int .i64 dir, .sl 1 0 1, .sl 2 0 m1, .sl 3 0 m2], .arr 0 9 [.str] [[.str z]], .arr 0 3 [.int .i64] sts, .arr 0 3 [.int .i64] dvs] => Hyp (0 ≤ i ∧ i ≤ n ∧ 6 ≤ n ∧ n ≤ 12 ∧ 0 ≤ sl ∧ sl < n ∧ (dir = 1 ∨ dir = -1) ∧ (rows.length : Int) = n ∧ s_calmOk n sl dir s rows) ∧ Q (.exit 2) [] []
  | _, _ => False
def T3 : Sp := ⟨T2.fn, [(6, 8, lCd), (6, 15, lCl)]⟩
end Go.Proofs.YtiemjcchlfbglaaGreatE
/- What path mode says of functions, printed by a program of this session; the kernel holds each. -/
namespace Go.Proofs.YtiemjcchlfbglaaGreatE
open Go
set_option maxRecDepth 100000
set_option linter.unusedVariables false
theorem nfCd (n pi e g fi fk fa ff ft ro sl dir : Int) (nl nl3 nl4 : Bool) (ps acts ds sts dvs : List (List AV)) (m1 m2 : Nat) (z s : ByteArray) (i : Int) (nl5 : Bool) (raw : List (List AV)) (Q : Ex → List AV → List AObj → Prop) : lpBody Tryz.prog H0 T2 6 6 6 8 [.row nl5 [.int .i64] raw, .ptr 0 0, .str s, .int .i64 i] [.box [.int .i64 n, .int .i64 pi, .int .i64 e, .int .i64 g, .int .i64 fi, .row nl [.int .i64] ps, .int .i64 fk, .int .i64 fa, .int .i64 ff, .int .i64 ft, .row nl3 [.int .i64, .int .i64, .str] acts, .row nl4 [.int .i64] ds, .int .i64 ro, .int .i64 sl, .int .i64 dir, .sl 1 0 1, .sl 2 0 m1, .sl 3 0 m2], .arr 2 9 [.str] [[.str z]], .arr 2 3 [.int .i64] sts, .arr 2 3 [.int .i64] dvs] Q = (
br (decide (i < n))
 (br (decide (i < (↑raw.length : Int)))
  (chk ((0 : Int) ≤ i ∧ i < (↑raw.length : Int)) (chk ((0 : Int) < IntKind.i64.wrap (IntKind.i64.wrap ((4 : Int) * pi) + (1 : Int)) ∧
  IntKind.i64.wrap (IntKind.i64.wrap ((4 : Int) * pi) + (1 : Int)) < (9223372036854775808 : Int)) (chk ((0 : Int) ≤ i ∧ i < (↑m2 : Int)) (chk ((0 : Nat) + i.toNat < dvs.length) (Q (Ex.nrm) ([AV.row nl5 [K.int IntKind.i64] raw, AV.ptr (0 : Nat) (0 : Nat), AV.str s,
  AV.int IntKind.i64 (IntKind.i64.wrap (i + (1 : Int)))]) ([AObj.box
    [AV.int IntKind.i64 n, AV.int IntKind.i64 pi, AV.int IntKind.i64 e, AV.int IntKind.i64 g, AV.int IntKind.i64 fi,
      AV.row nl [K.int IntKind.i64] ps, AV.int IntKind.i64 fk, AV.int IntKind.i64 fa, AV.int IntKind.i64 ff,
      AV.int IntKind.i64 ft, AV.row nl3 [K.int IntKind.i64, K.int IntKind.i64, K.str] acts,
      AV.row nl4 [K.int IntKind.i64] ds, AV.int IntKind.i64 ro, AV.int IntKind.i64 sl, AV.int IntKind.i64 dir,
      AV.sl (1 : Nat) (0 : Nat) (1 : Nat), AV.sl (2 : Nat) (0 : Nat) m1, AV.sl (3 : Nat) (0 : Nat) m2],
  AObj.arr (2 : Nat) (9 : Nat) [K.str] [[AV.str z]], AObj.arr (2 : Nat) (3 : Nat) [K.int IntKind.i64] sts,
  AObj.arr (2 : Nat) (3 : Nat) [K.int IntKind.i64]
    (dvs.set ((0 : Nat) + i.toNat)
      (AV.int IntKind.i64
          (IntKind.i64.wrap
            (s_rem ((raw.getD i.toNat []).getD (0 : Nat) AV.gone).toI
                (IntKind.i64.wrap (IntKind.i64.wrap ((4 : Int) * pi) + (1 : Int))) -
              IntKind.i64.wrap ((2 : Int) * pi))) ::
        List.drop ((0 : Nat) + (1 : Nat)) (dvs.getD ((0 : Nat) + i.toNat) [])))]))))))
  (Q (Ex.exit (0 : Nat)) ([AV.ptr (0 : Nat) (0 : Nat), AV.str s]) ([AObj.box
    [AV.int IntKind.i64 n, AV.int IntKind.i64 pi, AV.int IntKind.i64 e, AV.int IntKind.i64 g, AV.int IntKind.i64 fi,
      AV.row nl [K.int IntKind.i64] ps, AV.int IntKind.i64 fk, AV.int IntKind.i64 fa, AV.int IntKind.i64 ff,
      AV.int IntKind.i64 ft, AV.row nl3 [K.int IntKind.i64, K.int IntKind.i64, K.str] acts,
      AV.row nl4 [K.int IntKind.i64] ds, AV.int IntKind.i64 ro, AV.int IntKind.i64 sl, AV.int IntKind.i64 dir,
      AV.sl (1 : Nat) (0 : Nat) (1 : Nat), AV.sl (2 : Nat) (0 : Nat) m1, AV.sl (3 : Nat) (0 : Nat) m2],
  AObj.arr (2 : Nat) (9 : Nat) [K.str] [[AV.str z]], AObj.arr (2 : Nat) (3 : Nat) [K.int IntKind.i64] sts,
  AObj.arr (2 : Nat) (3 : Nat) [K.int IntKind.i64] dvs])))
 (Q (Ex.exit (0 : Nat)) ([AV.ptr (0 : Nat) (0 : Nat), AV.str s]) ([AObj.box
    [AV.int IntKind.i64 n, AV.int IntKind.i64 pi, AV.int IntKind.i64 e, AV.int IntKind.i64 g, AV.int IntKind.i64 fi,
      AV.row nl [K.int IntKind.i64] ps, AV.int IntKind.i64 fk, AV.int IntKind.i64 fa, AV.int IntKind.i64 ff,
      AV.int IntKind.i64 ft, AV.row nl3 [K.int IntKind.i64, K.int IntKind.i64, K.str] acts,
      AV.row nl4 [K.int IntKind.i64] ds, AV.int IntKind.i64 ro, AV.int IntKind.i64 sl, AV.int IntKind.i64 dir,
      AV.sl (1 : Nat) (0 : Nat) (1 : Nat), AV.sl (2 : Nat) (0 : Nat) m1, AV.sl (3 : Nat) (0 : Nat) m2],
  AObj.arr (2 : Nat) (9 : Nat) [K.str] [[AV.str z]], AObj.arr (2 : Nat) (3 : Nat) [K.int IntKind.i64] sts,
  AObj.arr (2 : Nat) (3 : Nat) [K.int IntKind.i64] dvs]))) := by kernel_rfl
theorem nfCl (n pi e g fi fk fa ff ft ro sl dir : Int) (nl nl3 nl4 : Bool) (ps acts ds sts dvs : List (List AV)) (m1 m2 : Nat) (z s : ByteArray) (i : Int) (nw : Bool) (rows : List (List AV)) (Q : Ex → List AV → List AObj → Prop) : lpBody Tryz.prog H0 T2 6 6 6 15 [.ptr 0 0, .str s, .row nw [.str, .str, .str, .int .i64] rows, .int .i64 i] [.box [.int .i64 n, .int .i64 pi, .int .i64 e, .int .i64 g, .int .i64 fi, .row nl [.int .i64] ps, .int .i64 fk, .int .i64 fa, .int .i64 ff, .int .i64 ft, .row nl3 [.int .i64, .int .i64, .str] acts, .row nl4 [.int .i64] ds, .int .i64 ro, .int .i64 sl, .int .i64 dir, .sl 1 0 1, .sl 2 0 m1, .sl 3 0 m2], .arr 0 9 [.str] [[.str z]], .arr 0 3 [.int .i64] sts, .arr 0 3 [.int .i64] dvs] Q = (
br (decide (i < (↑rows.length : Int)))
 (chk ((0 : Int) ≤ i ∧ i < (↑rows.length : Int)) (br (!((rows.getD i.toNat []).getD (2 : Nat) AV.gone).toS.toList == s.toList)
  (Q (Ex.ret) ([AV.bool false]) ([]))
  (chk ((0 : Int) ≤ i ∧ i < (↑rows.length : Int)) (((Hyp ((0 : Int) < n ∧
  n ≤ (1000000 : Int) ∧ (0 : Int) ≤ sl ∧ sl < n ∧ (0 : Int) ≤ i ∧ i < n ∧ (dir = (1 : Int) ∨ dir = (-1 : Int)))) ∧
  (br (((rows.getD i.toNat []).getD (3 : Nat) AV.gone).toI != s_far n sl dir i)
   (Q (Ex.ret) ([AV.bool false]) ([]))
   (chk ((0 : Int) ≤ i ∧ i < (↑rows.length : Int)) (br (decide (((rows.getD i.toNat []).getD (3 : Nat) AV.gone).toI > (0 : Int)))
    (chk ((0 : Int) ≤ i ∧ i < (↑rows.length : Int)) (br (!((rows.getD i.toNat []).getD (0 : Nat) AV.gone).toS.toList == s.toList)
     (Q (Ex.ret) ([AV.bool false]) ([]))
     (chk ((0 : Int) ≤ i ∧ i < (↑rows.length : Int)) (br (decide (((rows.getD i.toNat []).getD (3 : Nat) AV.gone).toI > (1 : Int)))
      (chk ((0 : Int) ≤ i ∧ i < (↑rows.length : Int)) (br (!((rows.getD i.toNat []).getD (1 : Nat) AV.gone).toS.toList == s.toList)
       (Q (Ex.ret) ([AV.bool false]) ([]))
       (chk ((0 : Int) ≤ i ∧ i < (↑rows.length : Int)) (br (((rows.getD i.toNat []).getD (3 : Nat) AV.gone).toI == (1 : Int))
        (chk ((0 : Int) ≤ i ∧ i < (↑rows.length : Int)) (br (!((rows.getD i.toNat []).getD (1 : Nat) AV.gone).toS.toList == (ByteArray.mk #[]).toList)
         (Q (Ex.ret) ([AV.bool false]) ([]))
         (Q (Ex.nrm) ([AV.ptr (0 : Nat) (0 : Nat), AV.str s, AV.row nw [K.str, K.str, K.str, K.int IntKind.i64] rows,
  AV.int IntKind.i64 (IntKind.i64.wrap (i + (1 : Int)))]) ([AObj.box
    [AV.int IntKind.i64 n, AV.int IntKind.i64 pi, AV.int IntKind.i64 e, AV.int IntKind.i64 g, AV.int IntKind.i64 fi,
      AV.row nl [K.int IntKind.i64] ps, AV.int IntKind.i64 fk, AV.int IntKind.i64 fa, AV.int IntKind.i64 ff,
      AV.int IntKind.i64 ft, AV.row nl3 [K.int IntKind.i64, K.int IntKind.i64, K.str] acts,
      AV.row nl4 [K.int IntKind.i64] ds, AV.int IntKind.i64 ro, AV.int IntKind.i64 sl, AV.int IntKind.i64 dir,
      AV.sl (1 : Nat) (0 : Nat) (1 : Nat), AV.sl (2 : Nat) (0 : Nat) m1, AV.sl (3 : Nat) (0 : Nat) m2],
  AObj.arr (0 : Nat) (9 : Nat) [K.str] [[AV.str z]], AObj.arr (0 : Nat) (3 : Nat) [K.int IntKind.i64] sts,
  AObj.arr (0 : Nat) (3 : Nat) [K.int IntKind.i64] dvs]))))
        (Q (Ex.nrm) ([AV.ptr (0 : Nat) (0 : Nat), AV.str s, AV.row nw [K.str, K.str, K.str, K.int IntKind.i64] rows,
  AV.int IntKind.i64 (IntKind.i64.wrap (i + (1 : Int)))]) ([AObj.box
    [AV.int IntKind.i64 n, AV.int IntKind.i64 pi, AV.int IntKind.i64 e, AV.int IntKind.i64 g, AV.int IntKind.i64 fi,
      AV.row nl [K.int IntKind.i64] ps, AV.int IntKind.i64 fk, AV.int IntKind.i64 fa, AV.int IntKind.i64 ff,
      AV.int IntKind.i64 ft, AV.row nl3 [K.int IntKind.i64, K.int IntKind.i64, K.str] acts,
      AV.row nl4 [K.int IntKind.i64] ds, AV.int IntKind.i64 ro, AV.int IntKind.i64 sl, AV.int IntKind.i64 dir,
      AV.sl (1 : Nat) (0 : Nat) (1 : Nat), AV.sl (2 : Nat) (0 : Nat) m1, AV.sl (3 : Nat) (0 : Nat) m2],
  AObj.arr (0 : Nat) (9 : Nat) [K.str] [[AV.str z]], AObj.arr (0 : Nat) (3 : Nat) [K.int IntKind.i64] sts,
  AObj.arr (0 : Nat) (3 : Nat) [K.int IntKind.i64] dvs]))))))
      (chk ((0 : Int) ≤ i ∧ i < (↑rows.length : Int)) (br (((rows.getD i.toNat []).getD (3 : Nat) AV.gone).toI == (1 : Int))
       (chk ((0 : Int) ≤ i ∧ i < (↑rows.length : Int)) (br (!((rows.getD i.toNat []).getD (1 : Nat) AV.gone).toS.toList == (ByteArray.mk #[]).toList)
        (Q (Ex.ret) ([AV.bool false]) ([]))
        (Q (Ex.nrm) ([AV.ptr (0 : Nat) (0 : Nat), AV.str s, AV.row nw [K.str, K.str, K.str, K.int IntKind.i64] rows,
  AV.int IntKind.i64 (IntKind.i64.wrap (i + (1 : Int)))]) ([AObj.box
    [AV.int IntKind.i64 n, AV.int IntKind.i64 pi, AV.int IntKind.i64 e, AV.int IntKind.i64 g, AV.int IntKind.i64 fi,
      AV.row nl [K.int IntKind.i64] ps, AV.int IntKind.i64 fk, AV.int IntKind.i64 fa, AV.int IntKind.i64 ff,
      AV.int IntKind.i64 ft, AV.row nl3 [K.int IntKind.i64, K.int IntKind.i64, K.str] acts,
      AV.row nl4 [K.int IntKind.i64] ds, AV.int IntKind.i64 ro, AV.int IntKind.i64 sl, AV.int IntKind.i64 dir,
      AV.sl (1 : Nat) (0 : Nat) (1 : Nat), AV.sl (2 : Nat) (0 : Nat) m1, AV.sl (3 : Nat) (0 : Nat) m2],
  AObj.arr (0 : Nat) (9 : Nat) [K.str] [[AV.str z]], AObj.arr (0 : Nat) (3 : Nat) [K.int IntKind.i64] sts,
  AObj.arr (0 : Nat) (3 : Nat) [K.int IntKind.i64] dvs]))))
       (Q (Ex.nrm) ([AV.ptr (0 : Nat) (0 : Nat), AV.str s, AV.row nw [K.str, K.str, K.str, K.int IntKind.i64] rows,
  AV.int IntKind.i64 (IntKind.i64.wrap (i + (1 : Int)))]) ([AObj.box
    [AV.int IntKind.i64 n, AV.int IntKind.i64 pi, AV.int IntKind.i64 e, AV.int IntKind.i64 g, AV.int IntKind.i64 fi,
      AV.row nl [K.int IntKind.i64] ps, AV.int IntKind.i64 fk, AV.int IntKind.i64 fa, AV.int IntKind.i64 ff,
      AV.int IntKind.i64 ft, AV.row nl3 [K.int IntKind.i64, K.int IntKind.i64, K.str] acts,
      AV.row nl4 [K.int IntKind.i64] ds, AV.int IntKind.i64 ro, AV.int IntKind.i64 sl, AV.int IntKind.i64 dir,
      AV.sl (1 : Nat) (0 : Nat) (1 : Nat), AV.sl (2 : Nat) (0 : Nat) m1, AV.sl (3 : Nat) (0 : Nat) m2],
  AObj.arr (0 : Nat) (9 : Nat) [K.str] [[AV.str z]], AObj.arr (0 : Nat) (3 : Nat) [K.int IntKind.i64] sts,
  AObj.arr (0 : Nat) (3 : Nat) [K.int IntKind.i64] dvs]))))))))
    (chk ((0 : Int) ≤ i ∧ i < (↑rows.length : Int)) (br (decide (((rows.getD i.toNat []).getD (3 : Nat) AV.gone).toI > (1 : Int)))
     (chk ((0 : Int) ≤ i ∧ i < (↑rows.length : Int)) (br (!((rows.getD i.toNat []).getD (1 : Nat) AV.gone).toS.toList == s.toList)
      (Q (Ex.ret) ([AV.bool false]) ([]))
      (chk ((0 : Int) ≤ i ∧ i < (↑rows.length : Int)) (br (((rows.getD i.toNat []).getD (3 : Nat) AV.gone).toI == (1 : Int))
       (chk ((0 : Int) ≤ i ∧ i < (↑rows.length : Int)) (br (!((rows.getD i.toNat []).getD (1 : Nat) AV.gone).toS.toList == (ByteArray.mk #[]).toList)
        (Q (Ex.ret) ([AV.bool false]) ([]))
        (Q (Ex.nrm) ([AV.ptr (0 : Nat) (0 : Nat), AV.str s, AV.row nw [K.str, K.str, K.str, K.int IntKind.i64] rows,
  AV.int IntKind.i64 (IntKind.i64.wrap (i + (1 : Int)))]) ([AObj.box
    [AV.int IntKind.i64 n, AV.int IntKind.i64 pi, AV.int IntKind.i64 e, AV.int IntKind.i64 g, AV.int IntKind.i64 fi,
      AV.row nl [K.int IntKind.i64] ps, AV.int IntKind.i64 fk, AV.int IntKind.i64 fa, AV.int IntKind.i64 ff,
      AV.int IntKind.i64 ft, AV.row nl3 [K.int IntKind.i64, K.int IntKind.i64, K.str] acts,
      AV.row nl4 [K.int IntKind.i64] ds, AV.int IntKind.i64 ro, AV.int IntKind.i64 sl, AV.int IntKind.i64 dir,
      AV.sl (1 : Nat) (0 : Nat) (1 : Nat), AV.sl (2 : Nat) (0 : Nat) m1, AV.sl (3 : Nat) (0 : Nat) m2],
  AObj.arr (0 : Nat) (9 : Nat) [K.str] [[AV.str z]], AObj.arr (0 : Nat) (3 : Nat) [K.int IntKind.i64] sts,
  AObj.arr (0 : Nat) (3 : Nat) [K.int IntKind.i64] dvs]))))
       (Q (Ex.nrm) ([AV.ptr (0 : Nat) (0 : Nat), AV.str s, AV.row nw [K.str, K.str, K.str, K.int IntKind.i64] rows,
  AV.int IntKind.i64 (IntKind.i64.wrap (i + (1 : Int)))]) ([AObj.box
    [AV.int IntKind.i64 n, AV.int IntKind.i64 pi, AV.int IntKind.i64 e, AV.int IntKind.i64 g, AV.int IntKind.i64 fi,
      AV.row nl [K.int IntKind.i64] ps, AV.int IntKind.i64 fk, AV.int IntKind.i64 fa, AV.int IntKind.i64 ff,
      AV.int IntKind.i64 ft, AV.row nl3 [K.int IntKind.i64, K.int IntKind.i64, K.str] acts,
      AV.row nl4 [K.int IntKind.i64] ds, AV.int IntKind.i64 ro, AV.int IntKind.i64 sl, AV.int IntKind.i64 dir,
      AV.sl (1 : Nat) (0 : Nat) (1 : Nat), AV.sl (2 : Nat) (0 : Nat) m1, AV.sl (3 : Nat) (0 : Nat) m2],
  AObj.arr (0 : Nat) (9 : Nat) [K.str] [[AV.str z]], AObj.arr (0 : Nat) (3 : Nat) [K.int IntKind.i64] sts,
  AObj.arr (0 : Nat) (3 : Nat) [K.int IntKind.i64] dvs]))))))
     (chk ((0 : Int) ≤ i ∧ i < (↑rows.length : Int)) (br (((rows.getD i.toNat []).getD (3 : Nat) AV.gone).toI == (1 : Int))
      (chk ((0 : Int) ≤ i ∧ i < (↑rows.length : Int)) (br (!((rows.getD i.toNat []).getD (1 : Nat) AV.gone).toS.toList == (ByteArray.mk #[]).toList)
       (Q (Ex.ret) ([AV.bool false]) ([]))
       (Q (Ex.nrm) ([AV.ptr (0 : Nat) (0 : Nat), AV.str s, AV.row nw [K.str, K.str, K.str, K.int IntKind.i64] rows,
  AV.int IntKind.i64 (IntKind.i64.wrap (i + (1 : Int)))]) ([AObj.box
    [AV.int IntKind.i64 n, AV.int IntKind.i64 pi, AV.int IntKind.i64 e, AV.int IntKind.i64 g, AV.int IntKind.i64 fi,
      AV.row nl [K.int IntKind.i64] ps, AV.int IntKind.i64 fk, AV.int IntKind.i64 fa, AV.int IntKind.i64 ff,
      AV.int IntKind.i64 ft, AV.row nl3 [K.int IntKind.i64, K.int IntKind.i64, K.str] acts,
      AV.row nl4 [K.int IntKind.i64] ds, AV.int IntKind.i64 ro, AV.int IntKind.i64 sl, AV.int IntKind.i64 dir,
      AV.sl (1 : Nat) (0 : Nat) (1 : Nat), AV.sl (2 : Nat) (0 : Nat) m1, AV.sl (3 : Nat) (0 : Nat) m2],
  AObj.arr (0 : Nat) (9 : Nat) [K.str] [[AV.str z]], AObj.arr (0 : Nat) (3 : Nat) [K.int IntKind.i64] sts,
  AObj.arr (0 : Nat) (3 : Nat) [K.int IntKind.i64] dvs]))))
      (Q (Ex.nrm) ([AV.ptr (0 : Nat) (0 : Nat), AV.str s, AV.row nw [K.str, K.str, K.str, K.int IntKind.i64] rows,
  AV.int IntKind.i64 (IntKind.i64.wrap (i + (1 : Int)))]) ([AObj.box
    [AV.int IntKind.i64 n, AV.int IntKind.i64 pi, AV.int IntKind.i64 e, AV.int IntKind.i64 g, AV.int IntKind.i64 fi,
      AV.row nl [K.int IntKind.i64] ps, AV.int IntKind.i64 fk, AV.int IntKind.i64 fa, AV.int IntKind.i64 ff,
      AV.int IntKind.i64 ft, AV.row nl3 [K.int IntKind.i64, K.int IntKind.i64, K.str] acts,
      AV.row nl4 [K.int IntKind.i64] ds, AV.int IntKind.i64 ro, AV.int IntKind.i64 sl, AV.int IntKind.i64 dir,
      AV.sl (1 : Nat) (0 : Nat) (1 : Nat), AV.sl (2 : Nat) (0 : Nat) m1, AV.sl (3 : Nat) (0 : Nat) m2],
  AObj.arr (0 : Nat) (9 : Nat) [K.str] [[AV.str z]], AObj.arr (0 : Nat) (3 : Nat) [K.int IntKind.i64] sts,
  AObj.arr (0 : Nat) (3 : Nat) [K.int IntKind.i64] dvs]))))))))))))))
 (Q (Ex.exit (2 : Nat)) ([]) ([]))) := by kernel_rfl
theorem nfCalm9 (n pi e g fi : Int) (nl : Bool) (ps : List (List AV)) (slot : Int) (up : Bool) (nl4 : Bool) (ns : List (List AV)) (nl5 : Bool) (raw : List (List AV)) (Q : AV × List AObj → Prop) : inlW Tryz.prog H0 T3 6 (InO Tryz.prog H0 T3 6 6) 6 [cf n pi e g fi nl ps, .int .i64 slot, .bool up, .row nl4 [.int .i64] ns, .row nl5 [.int .i64] raw] [] Q = (
(∀ (n100 : Int),
(∀ (pi101 : Int),
(∀ (e102 : Int),
(∀ (g103 : Int),
(∀ (fi104 : Int),
(∀ (nl105 : Bool),
(∀ (qs106 : List Int),
(∀ (k'107 : Int),
(∀ (a'108 : Int),
(∀ (f'109 : Int),
(∀ (t'110 : Int),
(∀ (nl1'111 : Bool),
(∀ (nl2'112 : Bool),
(∀ (acts'113 : List (List AV)),
(∀ (ds'114 : List Int),
(∀ (ro115 : Int),
(∀ (sl'116 : Int),
(∀ (dir117 : Int),
(∀ (m118 : Nat),
(∀ (dv119 : List Int),
((s_made n100 pi101 e102 g103 fi104 qs106 ∧
  s_fok n100 k'107 a'108 f'109 t'110 acts'113 ds'114 ∧
    (0 : Int) ≤ ro115 ∧
      ro115 ≤ (130 : Int) ∧
        (0 : Int) ≤ sl'116 ∧
          sl'116 < n100 + (↑qs106.length : Int) ∧
            (dir117 = if up = true then (1 : Int) else (-1 : Int)) ∧ (↑m118 : Int) = n100 ∧ s_devs pi101 m118 dv119) →
((k'107 = (0 : Int)) →
((chk ((0 : Int) < n100 ∧ n100 < (9223372036854775808 : Int)) ((∀ (s124 : ByteArray),
((s124.size ≤ (80 : Nat)) →
((Hyp (s124.size ≤ (1000000 : Nat))) ∧
(((Hyp ((0 : Int) ≤ (0 : Int) ∧
  (0 : Int) ≤ n100 ∧
    n100 ≤ (12 : Int) ∧
      (4 : Int) ≤ pi101 ∧
        pi101 ≤ (1000 : Int) ∧
          (↑m118 : Int) = n100 ∧ s_isDev pi101 m118 (List.map (fun n => [AV.int IntKind.i64 n]) dv119))) ∧
((∀ (dvs'128 : List (List AV)),
((s_isDev pi101 m118 dvs'128) →
chk ((0 : Nat) + m118 ≤ (s_rep m118 (4 : Int)).length) (chk ((0 : Nat) + m118 ≤ dvs'128.length) (((Hyp (s_confOk n100 pi101 e102 g103 fi104
      (List.map (fun r => (r.getD (0 : Nat) AV.gone).toI) (List.map (fun n => [AV.int IntKind.i64 n]) qs106)) =
    true ∧
  s_actsB acts'113 ∧
    (0 : Int) ≤ ro115 ∧
      ro115 ≤ (1000000 : Int) ∧
        (0 : Int) ≤ s_rem slot n100 ∧
          s_rem slot n100 ≤ (1000000 : Int) ∧
            (dir117 = (1 : Int) ∨ dir117 = (-1 : Int)) ∧
              (↑(List.take m118 (List.drop (0 : Nat) (s_rep m118 (4 : Int)))).length : Int) = n100 ∧
                (↑(List.take m118 (List.drop (0 : Nat) dvs'128)).length : Int) = n100 ∧
                  s_rem slot n100 < n100 ∧ (s_clean s124).size ≤ (1000000 : Nat))) ∧
((∀ (em133 : Int → Int → ByteArray → ByteArray),
((∀ (fm dst : Int) (base : ByteArray),
  (0 : Int) ≤ dst →
    dst ≤ (1000000 : Int) →
      base.size ≤ (1000000 : Nat) → s_emitR (s_hit n100 k'107 a'108 fm dst) f'109 t'110 ro115 base (em133 fm dst base)) →
(∀ (rows135 : List (List AV)),
((rows135 =
  s_gIterS
    { n := n100, dir := dir117, sl := s_rem slot n100, pi := pi101,
      way := s_wayL n100 (s_rem slot n100) dir117 (n100 - (1 : Int)).toNat,
      sts := List.take m118 (List.drop (0 : Nat) (s_rep m118 (4 : Int))),
      dvs := List.take m118 (List.drop (0 : Nat) dvs'128), em := em133 }
    (s_gI1 n100 (s_rem slot n100) (s_clean s124)) (s_gI2 n100 (s_rem slot n100)) (0 : Nat) (n100 - (1 : Int)).toNat) →
br ((↑rows135.length : Int) != n100)
 (Q ((AV.bool false, [])))
 (((Hyp ((0 : Int) ≤ (0 : Int) ∧
  (0 : Int) ≤ n100 ∧
    (6 : Int) ≤ n100 ∧
      n100 ≤ (12 : Int) ∧
        (0 : Int) ≤ s_rem slot n100 ∧
          s_rem slot n100 < n100 ∧
            (dir117 = (1 : Int) ∨ dir117 = (-1 : Int)) ∧
              (↑rows135.length : Int) = n100 ∧ s_calmOk n100 (s_rem slot n100) dir117 (s_clean s124) rows135)) ∧
 (Q ((AV.bool true, []))))))))))))))))))))))) ∧
((∀ (rows123 : List (List AV)),
((rows123.length ≤ (2 : Nat)) →
((s_strs rows123) →
chk ((0 : Int) < n100 ∧ n100 < (9223372036854775808 : Int)) ((∀ (s127 : ByteArray),
((s127.size ≤ (80 : Nat)) →
((Hyp (s127.size ≤ (1000000 : Nat))) ∧
(((Hyp ((0 : Int) ≤ (0 : Int) ∧
  (0 : Int) ≤ n100 ∧
    n100 ≤ (12 : Int) ∧
      (4 : Int) ≤ pi101 ∧
        pi101 ≤ (1000 : Int) ∧
          (↑m118 : Int) = n100 ∧ s_isDev pi101 m118 (List.map (fun n => [AV.int IntKind.i64 n]) dv119))) ∧
((∀ (dvs'131 : List (List AV)),
((s_isDev pi101 m118 dvs'131) →
chk ((0 : Nat) + m118 ≤ (s_rep m118 (4 : Int)).length) (chk ((0 : Nat) + m118 ≤ dvs'131.length) (((Hyp (s_confOk n100 pi101 e102 g103 fi104
      (List.map (fun r => (r.getD (0 : Nat) AV.gone).toI) (List.map (fun n => [AV.int IntKind.i64 n]) qs106)) =
    true ∧
  s_actsB acts'113 ∧
    (0 : Int) ≤ ro115 ∧
      ro115 ≤ (1000000 : Int) ∧
        (0 : Int) ≤ s_rem slot n100 ∧
          s_rem slot n100 ≤ (1000000 : Int) ∧
            (dir117 = (1 : Int) ∨ dir117 = (-1 : Int)) ∧
              (↑(List.take m118 (List.drop (0 : Nat) (s_rep m118 (4 : Int)))).length : Int) = n100 ∧
                (↑(List.take m118 (List.drop (0 : Nat) dvs'131)).length : Int) = n100 ∧
                  s_rem slot n100 < n100 ∧ (s_clean s127).size ≤ (1000000 : Nat))) ∧
((∀ (em136 : Int → Int → ByteArray → ByteArray),
((∀ (fm dst : Int) (base : ByteArray),
  (0 : Int) ≤ dst →
    dst ≤ (1000000 : Int) →
      base.size ≤ (1000000 : Nat) → s_emitR (s_hit n100 k'107 a'108 fm dst) f'109 t'110 ro115 base (em136 fm dst base)) →
(∀ (rows138 : List (List AV)),
((rows138 =
  s_gIterS
    { n := n100, dir := dir117, sl := s_rem slot n100, pi := pi101,
      way := s_wayL n100 (s_rem slot n100) dir117 (n100 - (1 : Int)).toNat,
      sts := List.take m118 (List.drop (0 : Nat) (s_rep m118 (4 : Int))),
      dvs := List.take m118 (List.drop (0 : Nat) dvs'131), em := em136 }
    (s_gI1 n100 (s_rem slot n100) (s_clean s127)) (s_gI2 n100 (s_rem slot n100)) (0 : Nat) (n100 - (1 : Int)).toNat) →
br ((↑rows138.length : Int) != n100)
 (Q ((AV.bool false, [])))
 (((Hyp ((0 : Int) ≤ (0 : Int) ∧
  (0 : Int) ≤ n100 ∧
    (6 : Int) ≤ n100 ∧
      n100 ≤ (12 : Int) ∧
        (0 : Int) ≤ s_rem slot n100 ∧
          s_rem slot n100 < n100 ∧
            (dir117 = (1 : Int) ∨ dir117 = (-1 : Int)) ∧
              (↑rows138.length : Int) = n100 ∧ s_calmOk n100 (s_rem slot n100) dir117 (s_clean s127) rows138)) ∧
 (Q ((AV.bool true, [])))))))))))))))))))))))))))))))))))))))))))))))))) := by kernel_rfl
end Go.Proofs.YtiemjcchlfbglaaGreatE
/- SpreadCalm: the plain law. -/
namespace Go.Proofs.YtiemjcchlfbglaaGreatE
open Go Go.WideShapes
set_option linter.unusedVariables false
set_option linter.unusedSimpArgs false
set_option maxRecDepth 100000

theorem dev_set {pi : Int} {m : Nat} {dvs : List (List AV)} (h : s_isDev pi m dvs) {i : Nat} {d : Int} (h1 : -(2 * pi) ≤ d) (h2 : d ≤ 2 * pi) : s_isDev pi m (dvs.set i (AV.int .i64 d :: List.drop (0 + 1) (dvs.getD i []))) := by
  obtain ⟨dv, rfl, hl, hb⟩ := h
  refine ⟨dv.set i d, ?_, by rw [List.length_set]; exact hl, fun x hx => ?_⟩
  · have e : List.drop (0 + 1) ((irow .i64 dv).getD i []) = [] := by
      unfold irow
      rw [List.getD_eq_getElem?_getD, List.getElem?_map]
      cases dv[i]? <;> rfl
    rw [e]
    unfold irow
    rw [List.map_set]
  · rcases List.mem_or_eq_of_mem_set hx with hx | rfl
    · exact hb x hx
    · exact ⟨h1, h2⟩
theorem okLCd : OkLp Tryz.prog H0 6 8 lCd := by
  refine okLp_of (U := 6) (k := 6) okT2 lCd (fun vals h => match vals, h with | [_, _, _, .int _ i], .box (.int _ n :: _) :: _ => (n - i).toNat | _, _ => 0) fun vals h Q hl => ?_
  unfold lCd at hl
  split at hl
  · rename_i nl5 raw s i n pi e g fi nl ps fk fa ff ft nl3 acts nl4 ds ro sl dir m1 m2 z sts dvs
    obtain ⟨⟨h0, h1, h2, p0, p1, e2, hdv⟩, hq⟩ := hyp_iff.1 hl
    refine to (nfCd ..) (br_intro (fun c => br_intro (fun c2 => ?_) fun _ => hq _ hdv) fun _ => hq _ hdv)
    have c := of_decide_eq_true c
    have c2 := of_decide_eq_true c2
    have w4 : IntKind.i64.wrap (IntKind.i64.wrap (4 * pi) + 1) = 4 * pi + 1 := by rw [wr (x := 4 * pi) (by omega) (by omega)]; exact wr (by omega) (by omega)
    have wi : IntKind.i64.wrap (i + 1) = i + 1 := wr (by omega) (by omega)
    have w2 : IntKind.i64.wrap (2 * pi) = 2 * pi := wr (by omega) (by omega)
    have hl2 : dvs.length = m2 := by obtain ⟨dv, rfl, hl, _⟩ := hdv; rw [← hl]; simp [irow]
    have hr := rem_lt (((raw.getD i.toNat []).getD 0 AV.gone).toI) (show 0 < 4 * pi + 1 by omega)
    rw [w4, wi, w2, Nat.zero_add]
    rw [chk_iff, chk_iff, chk_iff, chk_iff]
    exact ⟨⟨h0, c2⟩, ⟨by omega, by omega⟩, ⟨h0, by omega⟩, by omega, by show (n - (i + 1)).toNat < (n - i).toNat; omega, hyp_iff.2 ⟨⟨by omega, by omega, h2, p0, p1, e2, dev_set hdv (dv_lo hr.1 hr.2 p1 p0) (dv_hi hr.1 hr.2 p1 p0)⟩, hq⟩⟩
  · exact hl.elim
theorem okLCl : OkLp Tryz.prog H0 6 15 lCl := by
  refine okLp_of (U := 6) (k := 6) okT2 lCl (fun vals _ => match vals with | [_, _, .row _ _ rows, .int _ i] => ((rows.length : Int) - i).toNat | _ => 0) fun vals h Q hl => ?_
  unfold lCl at hl
  split at hl
  · rename_i s nw rows i n pi e g fi nl ps fk fa ff ft nl3 acts nl4 ds ro sl dir m1 m2 z sts dvs
    obtain ⟨⟨h0, h1, n1, n2, s0, s1, hd, hlen, hok⟩, hq⟩ := hyp_iff.1 hl
    refine to (nfCl ..) (br_intro (fun c => ?_) fun _ => hq)
    have c := of_decide_eq_true c
    obtain ⟨d, k, er, k1, k2, k3⟩ := hok i h0 (by omega)
    have g0 : ((rows.getD i.toNat []).getD 0 AV.gone).toS = d := by rw [er]; rfl
    have g1 : ((rows.getD i.toNat []).getD 1 AV.gone).toS = k := by rw [er]; rfl
    have g2 : ((rows.getD i.toNat []).getD 2 AV.gone).toS = s := by rw [er]; rfl
    have g3 : ((rows.getD i.toNat []).getD 3 AV.gone).toI = s_far n sl dir i := by rw [er]; rfl
    have wi : IntKind.i64.wrap (i + 1) = i + 1 := wr (by omega) (by omega)
    have nrm : ((rows.length : Int) - (i + 1)).toNat < ((rows.length : Int) - i).toNat ∧ lCl [.ptr 0 0, .str s, .row nw [.str, .str, .str, .int .i64] rows, .int .i64 (i + 1)] [.box [.int .i64 n, .int .i64 pi, .int .i64 e, .int .i64 g, .int .i64 fi, .row nl [.int .i64] ps, .int .i64 fk, .int .i64 fa, .int .i64 ff, .int .i64 ft, .row nl3 [.int .i64, .int .i64, .str] acts, .row nl4 [.int .i64] ds, .int .i64 ro, .int .i64 sl, .int .i64 dir, .sl 1 0 1, .sl 2 0 m1, .sl 3 0 m2], .arr 0 9 [.str] [[.str z]], .arr 0 3 [.int .i64] sts, .arr 0 3 [.int .i64] dvs] Q :=
      ⟨by omega, hyp_iff.2 ⟨⟨by omega, by omega, n1, n2, s0, s1, hd, hlen, hok⟩, hq⟩⟩
    have ix : 0 ≤ i ∧ i < (rows.length : Int) := ⟨h0, c⟩
    have bad : ∀ {a b : ByteArray}, a = b → ¬ (!(a.toList == b.toList)) = true := fun h hh => absurd (hh.symm.trans (strR_eq h)) (by simp)
    simp only [g0, g1, g2, g3, chk_iff, wi]
    refine ⟨ix, br_intro (fun cc => (bad rfl cc).elim) fun _ => ⟨ix, hyp_iff.2 ⟨⟨by omega, by omega, s0, s1, h0, by omega, hd⟩, br_intro (fun cc => absurd cc (by simp)) fun _ => ⟨ix, br_intro (fun c1 => ⟨ix, br_intro (fun cc => (bad (k1 (of_decide_eq_true c1)) cc).elim) fun _ => ⟨ix, br_intro (fun c2 => ⟨ix, br_intro (fun cc => (bad (k2 (of_decide_eq_true c2)) cc).elim) fun _ => ⟨ix, br_intro (fun c3 => absurd (beq_iff_eq.1 c3) (by have := of_decide_eq_true c2; omega)) fun _ => nrm⟩⟩) fun c2 => ⟨ix, br_intro (fun c3 => ⟨ix, br_intro (fun cc => (bad (k3 (beq_iff_eq.1 c3)) cc).elim) fun _ => nrm⟩) fun _ => nrm⟩⟩⟩) fun c1 => ⟨ix, br_intro (fun c2 => absurd (of_decide_eq_true c2) (by have := of_decide_eq_false c1; omega)) fun c2 => ⟨ix, br_intro (fun c3 => absurd (beq_iff_eq.1 c3) (by have := of_decide_eq_false c1; omega)) fun _ => nrm⟩⟩⟩⟩⟩⟩
  · exact hl.elim
theorem okT3 : OkSp Tryz.prog H0 T3 := ⟨okT2.fn, okLCd, okLCl, trivial⟩
theorem run_calm {n dir sl pi a f t ro : Int} {sts dvs : List (List AV)} {em : Int → Int → ByteArray → ByteArray} {z : ByteArray} {rows : List (List AV)} (hn : 6 ≤ n) (hn2 : n ≤ 12) (hd : dir = 1 ∨ dir = -1) (hs : 0 ≤ sl ∧ sl < n)
    (hS : ∀ i, 0 ≤ i → i < n → s_int sts i = 4) (hD : ∀ i, 0 ≤ i → i < n → -(2 * pi) ≤ s_int dvs i ∧ s_int dvs i ≤ 2 * pi)
    (hr : rows = s_gIterS ⟨n, dir, sl, pi, s_wayL n sl dir (n - 1).toNat, sts, dvs, em⟩ (s_gI1 n sl z) (s_gI2 n sl) 0 (n - 1).toNat)
    (hE : ∀ (fm dst : Int) (base : ByteArray), 0 ≤ dst → dst ≤ 1000000 → base.size ≤ 1000000 → s_emitR (s_hit n 0 a fm dst) f t ro base (em fm dst base)) (hz : z.size ≤ 1000) (hc : s_cl z) :
    rows.length = n.toNat ∧ s_calmOk n sl dir z rows := by
  obtain ⟨P, Pn, Pd, Psl, Pe, hok, hN, hS', hg, hl, get⟩ := run_one hn hn2 hd hs hS hD hr
  have hE' : gEm P (s_hit n 0 a) f t ro := by unfold gEm; rw [Pe]; exact hE
  have hh : ∀ x y, s_hit n 0 a x y = false := fun x y => by unfold s_hit; rw [if_neg (by omega), if_neg (by omega)]
  have hp : ∀ i j : Nat, gC P sl z i j = z := fun i j => by rw [gC_pass hok hE' (by omega) (.inl (hh _ _)), clean_of hc]
  have re := fun m => reach hok (by omega) hS' hg hE' (show z.size ≤ 1000000 by omega) hc m (fun k _ => .inl (hh _ _)) (fun k _ => .inl (hh _ _))
  have dirz : ∀ k, gDirX P sl z k = z := fun k => by
    unfold gDirX
    split
    · rw [hg, hp]
    · rw [hp]
  refine ⟨hl, fun j j0 j1 => ?_⟩
  have hf := far_lt (n := n) (o := sl) (dir := dir) (by omega) j
  rw [get j j0 j1]
  obtain ⟨F, hF⟩ : ∃ F : Nat, (s_far n sl dir j).toNat = F := ⟨_, rfl⟩
  have hFi : s_far n sl dir j = (F : Int) := by omega
  rw [hF, hFi]
  unfold gSide
  cases F with
  | zero => exact ⟨_, _, rfl, fun h => by omega, fun h => by omega, fun h => by omega⟩
  | succ k =>
    rw [if_neg (by omega), if_neg (fun h => by cases h.1), Nat.add_sub_cancel, (re k).1, (re (k + 1)).1, dirz]
    refine ⟨_, _, rfl, fun _ => rfl, fun h => ?_, fun h => ?_⟩
    · unfold gSkipX
      rw [if_neg (by omega), (re k).2 (by omega), hp]
    · have k0 : k = 0 := by omega
      unfold gSkipX
      rw [if_pos k0]
      rfl
theorem calm_holds (n pi e g fi : Int) (nl : Bool) (ps : List (List AV)) (slot : Int) (up : Bool) (nl4 : Bool) (ns : List (List AV)) (nl5 : Bool) (raw : List (List AV)) :
    inlW Tryz.prog H0 T3 6 (InO Tryz.prog H0 T3 6 6) 6 [cf n pi e g fi nl ps, .int .i64 slot, .bool up, .row nl4 [.int .i64] ns, .row nl5 [.int .i64] raw] [] (fun r => r.1 = .bool true) := by
  refine to (nfCalm9 ..) ?_
  intro n' pi' e' g' fi' nl' qs k' a' f' t' nl1' nl2' acts' ds' ro sl' dir m dv hx hk
  obtain ⟨hm, hf, ro0, ro1, sl0, sl1, hdir, hmn, hdv⟩ := hx
  subst hk
  have hd : dir = 1 ∨ dir = -1 := by rw [hdir]; split <;> omega
  have hn := hm.1
  have hn2 := hm.2.1
  have hp := madeR hm
  have hs := rem_lt slot (show 0 < n' by omega)
  have hS : ∀ i, 0 ≤ i → i < n' → s_int (s_rep m 4) i = 4 := fun i i0 i1 => repR_int i0 (by omega)
  have cm : s_confOk n' pi' e' g' fi' (List.map (fun r => (r.getD 0 AV.gone).toI) (List.map (fun n => [AV.int IntKind.i64 n]) qs)) = true := cfR_ok hm
  have ca := actsR_ok hf
  have h0d : s_isDev pi' m (List.map (fun n => [AV.int IntKind.i64 n]) dv) := ⟨dv, rfl, hdv⟩
  have tail : ∀ (s : ByteArray), s.size ≤ 80 → ∀ dvs', s_isDev pi' m dvs' → (List.take m (List.drop 0 dvs') = dvs' ∧ dvs'.length = m) ∧ (∀ em : Int → Int → ByteArray → ByteArray,
      (∀ (fm dst : Int) (base : ByteArray), 0 ≤ dst → dst ≤ 1000000 → base.size ≤ 1000000 → s_emitR (s_hit n' 0 a' fm dst) f' t' ro base (em fm dst base)) →
      ∀ rows : List (List AV), rows = s_gIterS ⟨n', dir, s_rem slot n', pi', s_wayL n' (s_rem slot n') dir (n' - 1).toNat, s_rep m 4, dvs', em⟩ (s_gI1 n' (s_rem slot n') (s_clean s)) (s_gI2 n' (s_rem slot n')) 0 (n' - 1).toNat →
      (rows.length : Int) = n' ∧ s_calmOk n' (s_rem slot n') dir (s_clean s) rows) := fun s hsz dvs' hdd => by
    obtain ⟨dw, rfl, hdw⟩ := hdd
    have hl : (irow .i64 dw).length = m := by rw [← hdw.1]; simp [irow]
    refine ⟨⟨by rw [List.drop_zero, List.take_of_length_le (by omega)], hl⟩, fun em he rows hr => ?_⟩
    obtain ⟨h1, h2⟩ := run_calm hn hn2 hd hs hS (fun i i0 i1 => irow_int hdw i0 (by omega)) hr he (Nat.le_trans (clean_le s) (by omega)) (cl_clean s)
    exact ⟨by omega, h2⟩
  have fin : ∀ (s : ByteArray), s.size ≤ 80 → s.size ≤ 1000000 ∧ (s_clean s).size ≤ 1000000 := fun s h => ⟨by omega, Nat.le_trans (clean_le s) (by omega)⟩
  simp only [chk_iff, hyp_iff, repR_take, rep_len]
  refine ⟨⟨⟨by omega, by omega⟩, fun s hsz => ⟨(fin s hsz).1, ⟨by omega, by omega, hn2, hp.1, hp.2, hmn, h0d⟩, fun dvs' hdd => ?_⟩⟩, fun rows2 _ _ => ⟨⟨by omega, by omega⟩, fun s hsz => ⟨(fin s hsz).1, ⟨by omega, by omega, hn2, hp.1, hp.2, hmn, h0d⟩, fun dvs' hdd => ?_⟩⟩⟩
  all_goals
    obtain ⟨⟨t1, t2⟩, t3⟩ := tail s hsz dvs' hdd
    rw [t1]
    refine ⟨by omega, by omega, ⟨cm, ca, ro0, by omega, hs.1, by omega, hd, hmn, by omega, hs.2, (fin s hsz).2⟩, fun em he rows hr => ?_⟩
    obtain ⟨r1, r2⟩ := t3 em he rows hr
    exact br_intro (fun c => (bne_no r1 c).elim) fun _ => ⟨⟨by omega, by omega, hn, hn2, hs.1, hs.2, hd, r1, r2⟩, trivial⟩
end Go.Proofs.YtiemjcchlfbglaaGreatE
