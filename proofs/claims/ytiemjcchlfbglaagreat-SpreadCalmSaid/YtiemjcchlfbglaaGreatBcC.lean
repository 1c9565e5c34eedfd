/- The document's frames, roughly; small functions of the document. -/
import Derived.Test.YtiemjcchlfbglaaGreatBcB
import Derived.KernelRfl
namespace Go.Proofs.YtiemjcchlfbglaaGreatE
open Go
set_option linter.unusedVariables false

def s_01 (z : ByteArray) : Prop := ∀ b ∈ z.data.toList, b = 48 ∨ b = 49
def sAt4 : SW := fun args h Q => match args, h with
  | [.int .i64 n, .int .i64 i, .int .i64 d], [] => Hyp (0 < n ∧ n ≤ 1000000 ∧ -1000000 ≤ i ∧ i ≤ 1000000 ∧ -1000000 ≤ d ∧ d ≤ 1000000) ∧ Q (.int .i64 (s_rem (i + d) n), [])
  | _, _ => False
def sDist4 : SW := fun args h Q => match args, h with
  | [.int .i64 n, .int .i64 a, .int .i64 b, .int .i64 dir], [] => Hyp (0 < n ∧ n ≤ 1000000 ∧ 0 ≤ a ∧ a < n ∧ 0 ≤ b ∧ b < n ∧ (dir = 1 ∨ dir = -1)) ∧ Q (.int .i64 (s_far n a dir b), [])
  | _, _ => False
def sItem5 : SW := fun args h Q => match args, h with
  | [.int .i64 n, .bool b], [] => ∀ k v : Int, Q (.agg [.int .i64 k, .int .i64 v], [])
  | _, _ => False
def lBits1 : LW := fun vals h Q => match vals, h with
  | [.int .i64 n, .str s, .int .i64 i], [] => Hyp (-1 ≤ i ∧ i ≤ 61 ∧ s_01 s ∧ (s.size : Int) + i ≤ 61) ∧ ∀ z : ByteArray, s_01 z ∧ (z.size : Int) = s.size + i + 1 → Q (.exit 0) [.str z] []
  | _, _ => False
def sBits1 : SW := fun args h Q => match args, h with
  | [.int .i64 n, .int .i64 size], [] => Hyp (1 ≤ size ∧ size ≤ 62) ∧ ∀ z : ByteArray, s_01 z ∧ (z.size : Int) = size → Q (.str z, [])
  | _, _ => False
def lSum2 : LW := fun vals h Q => match vals, h with
  | [.str s, .int .i64 reg, .int .i64 i], [] => Hyp (0 ≤ i ∧ i ≤ s.size ∧ s.size ≤ 1000000) ∧ ∀ z : Int, Q (.exit 0) [.int .i64 z] []
  | _, _ => False
def sSum2 : SW := fun args h Q => match args, h with
  | [.str s], [] => Hyp (s.size ≤ 1000000) ∧ ∀ z : Int, Q (.int .i64 z, [])
  | _, _ => False
def lText5 : LW := fun vals h Q => match vals, h with
  | [.ptr 0 0, .str s, .int .i64 i], [.box [.int .i64 k, .int .i64 r, .int .i64 sl, .int .i64 pk, .int .i64 pv, .row nl [.int .i64, .int .i64] ec]] =>
    Hyp (0 ≤ i ∧ i ≤ ec.length ∧ ec.length ≤ 30 ∧ s_01 s ∧ (s.size : Int) = 34 + 10 * i) ∧ ∀ z : ByteArray, s_01 z ∧ z.size ≤ 334 → Q (.exit 0) [.str z] []
  | _, _ => False
def sText5 : SW := fun args h Q => match args, h with
  | [.agg [.int .i64 n, .int .i64 pi, .int .i64 e, .int .i64 g, .int .i64 fi, .row nl' [.int .i64] ps], .agg [.int .i64 k, .int .i64 r, .int .i64 sl, .int .i64 pk, .int .i64 pv, .row nl [.int .i64, .int .i64] ec]], [] =>
    Hyp (ec.length ≤ 30) ∧ ∀ z : ByteArray, s_clean z = z ∧ 0 < z.size ∧ z.size ≤ 1000 → Q (.str z, [])
  | _, _ => False
def lMk5 : LW := fun vals h Q => match vals, h with
  | [.row nl3 [.int .i64] ns, .ptr 0 0, .ptr 1 0, .ptr 2 0, .int .i64 i], [.box [.int .i64 n, .int .i64 pi, .int .i64 e, .int .i64 g, .int .i64 fi, .row nl [.int .i64] ps], .box [.int .i64 z1, .int .i64 z2, .int .i64 z3, .int .i64 z4, .int .i64 z5, .nils],
      .box [.int .i64 k, .int .i64 r, .int .i64 sl, .int .i64 pk, .int .i64 pv, .nils]] =>
    Hyp (i = 0 ∧ 6 ≤ n ∧ n ≤ 12 ∧ ps.length ≤ 3) ∧
      (Q (.exit 0) [.ptr 0 0, .ptr 1 0] [.box [.int .i64 z1, .int .i64 z2, .int .i64 z3, .int .i64 z4, .int .i64 z5, .nils], .box [.int .i64 k, .int .i64 r, .int .i64 sl, .int .i64 pk, .int .i64 pv, .nils]] ∧
       ∀ rows : List (List AV), rows.length ≤ 15 → Q (.exit 0) [.ptr 0 0, .ptr 1 0] [.box [.int .i64 z1, .int .i64 z2, .int .i64 z3, .int .i64 z4, .int .i64 z5, .nils], .box [.int .i64 k, .int .i64 r, .int .i64 sl, .int .i64 pk, .int .i64 pv, .sl 2 0 rows.length], .arr 2 29 [.int .i64, .int .i64] rows])
  | [.row nl3 [.int .i64] ns, .ptr 0 0, .ptr 1 0, .ptr 2 0, .int .i64 i], [.box [.int .i64 n, .int .i64 pi, .int .i64 e, .int .i64 g, .int .i64 fi, .row nl [.int .i64] ps], .box [.int .i64 z1, .int .i64 z2, .int .i64 z3, .int .i64 z4, .int .i64 z5, .nils],
      .box [.int .i64 k, .int .i64 r, .int .i64 sl, .int .i64 pk, .int .i64 pv, .sl 3 0 m], .arr 2 29 [.int .i64, .int .i64] rs] =>
    (i = m ∧ rs.length = m ∧ i ≤ n + ps.length ∧ 6 ≤ n ∧ n ≤ 12 ∧ ps.length ≤ 3) ∧
       ∀ rows : List (List AV), rows.length ≤ 15 → Q (.exit 0) [.ptr 0 0, .ptr 1 0] [.box [.int .i64 z1, .int .i64 z2, .int .i64 z3, .int .i64 z4, .int .i64 z5, .nils], .box [.int .i64 k, .int .i64 r, .int .i64 sl, .int .i64 pk, .int .i64 pv, .sl 2 0 rows.length], .arr 2 29 [.int .i64, .int .i64] rows]
  | _, _ => False
def sMk5 : SW := fun args h Q => match args, h with
  | [.agg [.int .i64 n, .int .i64 pi, .int .i64 e, .int .i64 g, .int .i64 fi, .row nl [.int .i64] ps], .agg [.int .i64 k, .int .i64 r, .int .i64 sl, .int .i64 pk, .int .i64 pv, .row nl2 [.int .i64, .int .i64] ec], .row nl3 [.int .i64] ns], [] =>
    Hyp (6 ≤ n ∧ n ≤ 12 ∧ ps.length ≤ 3) ∧ ∀ (k' r' sl' pk' pv' : Int) (nl' : Bool) (rows : List (List AV)), rows.length ≤ 15 → Q (.agg [.int .i64 k', .int .i64 r', .int .i64 sl', .int .i64 pk', .int .i64 pv', .row nl' [.int .i64, .int .i64] rows], [])
  | _, _ => False
def V1 : Sp := ⟨(40, sWithin) :: U5.fn, []⟩
def V1L : Sp := ⟨V1.fn, [(35, 5, lBits1), (55, 3, lSum2)]⟩
def V2 : Sp := ⟨(18, sAt4) :: (26, sDist4) :: (21, sItem5) :: (35, sBits1) :: (55, sSum2) :: V1.fn, []⟩
def V2L : Sp := ⟨V2.fn, [(14, 3, lText5), (15, 8, lMk5)]⟩
def V3 : Sp := ⟨(14, sText5) :: (15, sMk5) :: V2.fn, []⟩
end Go.Proofs.YtiemjcchlfbglaaGreatE
/- What path mode says of functions, printed by a program of this session; the kernel holds each. -/
namespace Go.Proofs.YtiemjcchlfbglaaGreatE
open Go
set_option maxRecDepth 100000
set_option linter.unusedVariables false
theorem nfRest (a n : Int) (Q : AV × List AObj → Prop) : inlW Tryz.prog H0 S0 6 (InO Tryz.prog H0 S0 6 6) 40 [.int .i64 a, .int .i64 n] [] Q = (
chk (n ≠ (0 : Int)) (br (decide (a.tmod n < (0 : Int)))
 (Q ((AV.int IntKind.i64 (IntKind.i64.wrap (a.tmod n + n)), [])))
 (Q ((AV.int IntKind.i64 (a.tmod n), []))))) := by kernel_rfl
theorem nfAt4 (n i d : Int) (Q : AV × List AObj → Prop) : inlW Tryz.prog H0 V1 6 (InO Tryz.prog H0 V1 6 6) 18 [.int .i64 n, .int .i64 i, .int .i64 d] [] Q = (
chk ((0 : Int) < n ∧ n < (9223372036854775808 : Int)) (Q ((AV.int IntKind.i64 (s_rem (IntKind.i64.wrap (i + d)) n), [])))) := by kernel_rfl
theorem nfDist4 (n a b dir : Int) (Q : AV × List AObj → Prop) : inlW Tryz.prog H0 V1 6 (InO Tryz.prog H0 V1 6 6) 26 [.int .i64 n, .int .i64 a, .int .i64 b, .int .i64 dir] [] Q = (
chk ((0 : Int) < n ∧ n < (9223372036854775808 : Int)) (Q ((AV.int IntKind.i64 (s_rem (IntKind.i64.wrap (dir * IntKind.i64.wrap (b - a))) n), [])))) := by kernel_rfl
theorem nfItem5 (n : Int) (b : Bool) (Q : AV × List AObj → Prop) : inlW Tryz.prog H0 V1 6 (InO Tryz.prog H0 V1 6 6) 21 [.int .i64 n, .bool b] [] Q = (
br (b)
 (br (s_rem n (3 : Int) == (0 : Int))
  (Q ((AV.agg [AV.int IntKind.i64 (2 : Int), AV.int IntKind.i64 (s_rem (IntKind.i64.wrap (n.tdiv (3 : Int))) (256 : Int))],
  [])))
  (br (s_rem n (3 : Int) == (2 : Int))
   (Q ((AV.agg
    [AV.int IntKind.i64 (s_rem n (3 : Int)),
      AV.int IntKind.i64 (s_rem (IntKind.i64.wrap (n.tdiv (3 : Int))) (256 : Int))],
  [])))
   (Q ((AV.agg [AV.int IntKind.i64 (s_rem n (3 : Int)), AV.int IntKind.i64 (0 : Int)], [])))))
 (br (s_rem n (3 : Int) == (2 : Int))
  (Q ((AV.agg
    [AV.int IntKind.i64 (s_rem n (3 : Int)),
      AV.int IntKind.i64 (s_rem (IntKind.i64.wrap (n.tdiv (3 : Int))) (256 : Int))],
  [])))
  (Q ((AV.agg [AV.int IntKind.i64 (s_rem n (3 : Int)), AV.int IntKind.i64 (0 : Int)], []))))) := by kernel_rfl
theorem nfBits1 (n size : Int) (Q : AV × List AObj → Prop) : inlW Tryz.prog H0 V1L 6 (InO Tryz.prog H0 V1L 6 6) 35 [.int .i64 n, .int .i64 size] [] Q = (
br (decide (size < (1 : Int)))
 (Q ((AV.str (ByteArray.mk #[]), [])))
 (br (decide (size > (62 : Int)))
  (Q ((AV.str (ByteArray.mk #[]), [])))
  (((Hyp ((-1 : Int) ≤ IntKind.i64.wrap (size - (1 : Int)) ∧
  IntKind.i64.wrap (size - (1 : Int)) ≤ (61 : Int) ∧
    s_01 (ByteArray.mk #[]) ∧ (0 : Int) + IntKind.i64.wrap (size - (1 : Int)) ≤ (61 : Int))) ∧
  ((∀ (z103 : ByteArray),
  ((s_01 z103 ∧ (↑z103.size : Int) = (0 : Int) + IntKind.i64.wrap (size - (1 : Int)) + (1 : Int)) →
  Q ((AV.str z103, []))))))))) := by kernel_rfl
theorem nfBits1a (n i : Int) (s : ByteArray) (Q : Ex → List AV → List AObj → Prop) : lpBody Tryz.prog H0 V1 6 6 35 5 [.int .i64 n, .str s, .int .i64 i] [] Q = (
br (decide (i ≥ (0 : Int)))
 (chk (¬IntKind.u64.wrap i < (0 : Int)) ((∀ (z102 : Int),
 ((z102 = n.fdiv ((2 : Int) ^ min (IntKind.u64.wrap i).toNat (64 : Nat))) →
 (∀ (z104 : Int),
 ((z104 = IntKind.i64.wrap (↑(BitVec.ofInt IntKind.i64.bits z102 &&& BitVec.ofInt IntKind.i64.bits (1 : Int)).toNat : Int)) →
 br (z104 == (1 : Int))
  (chk ((s.size + (1 : Nat)).ble (9223372036854775807 : Nat) = true) (Q (Ex.nrm) ([AV.int IntKind.i64 n, AV.str (s ++ (ByteArray.mk #[(49 : UInt8)])), AV.int IntKind.i64 (IntKind.i64.wrap (i - (1 : Int)))]) ([])))
  (chk ((s.size + (1 : Nat)).ble (9223372036854775807 : Nat) = true) (Q (Ex.nrm) ([AV.int IntKind.i64 n, AV.str (s ++ (ByteArray.mk #[(48 : UInt8)])), AV.int IntKind.i64 (IntKind.i64.wrap (i - (1 : Int)))]) ([])))))))))
 (Q (Ex.exit (0 : Nat)) ([AV.str s]) ([]))) := by kernel_rfl
theorem nfSum2 (s : ByteArray) (Q : AV × List AObj → Prop) : inlW Tryz.prog H0 V1L 6 (InO Tryz.prog H0 V1L 6 6) 55 [.str s] [] Q = (
((Hyp ((0 : Int) ≤ (0 : Int) ∧ (0 : Int) ≤ (↑s.size : Int) ∧ s.size ≤ (1000000 : Nat))) ∧
((∀ (z101 : Int),
Q ((AV.int IntKind.i64 z101, [])))))) := by kernel_rfl
theorem nfSum2a (reg i : Int) (s : ByteArray) (Q : Ex → List AV → List AObj → Prop) : lpBody Tryz.prog H0 V1 6 6 55 3 [.str s, .int .i64 reg, .int .i64 i] [] Q = (
br (decide (i < (↑s.size : Int)))
 ((∀ (z101 : Int),
 ((z101 = reg.fdiv (32768 : Int)) →
 (∀ (z103 : Int),
 ((z103 = IntKind.i64.wrap (reg * (2 : Int))) →
 (∀ (z105 : Int),
 ((z105 =
  IntKind.i64.wrap (↑(BitVec.ofInt IntKind.i64.bits z103 &&& BitVec.ofInt IntKind.i64.bits (65535 : Int)).toNat : Int)) →
 chk ((0 : Int) ≤ i ∧ i < (↑s.size : Int)) (br (!(z101 == (1 : Int)) == ((↑(s.data.toList.getD i.toNat (0 : UInt8)).toNat : Int) == (49 : Int)))
  ((∀ (z109 : Int),
  ((z109 =
  IntKind.i64.wrap (↑(BitVec.ofInt IntKind.i64.bits z105 ^^^ BitVec.ofInt IntKind.i64.bits (4129 : Int)).toNat : Int)) →
  Q (Ex.nrm) ([AV.str s, AV.int IntKind.i64 z109, AV.int IntKind.i64 (IntKind.i64.wrap (i + (1 : Int)))]) ([]))))
  (Q (Ex.nrm) ([AV.str s, AV.int IntKind.i64 z105, AV.int IntKind.i64 (IntKind.i64.wrap (i + (1 : Int)))]) ([]))))))))))
 (Q (Ex.exit (0 : Nat)) ([AV.int IntKind.i64 reg]) ([]))) := by kernel_rfl
theorem nfText5 (n pi e g fi : Int) (nl' : Bool) (ps : List (List AV)) (k r sl pk pv : Int) (nl : Bool) (ec : List (List AV)) (Q : AV × List AObj → Prop) : inlW Tryz.prog H0 V2L 6 (InO Tryz.prog H0 V2L 6 6) 14 [cf n pi e g fi nl' ps, .agg [.int .i64 k, .int .i64 r, .int .i64 sl, .int .i64 pk, .int .i64 pv, .row nl [.int .i64, .int .i64] ec]] [] Q = (
((Hyp ((1 : Int) ≤ (2 : Int) ∧ (2 : Int) ≤ (62 : Int))) ∧
((∀ (z101 : ByteArray),
((s_01 z101 ∧ (↑z101.size : Int) = (2 : Int)) →
((Hyp ((1 : Int) ≤ (16 : Int) ∧ (16 : Int) ≤ (62 : Int))) ∧
((∀ (z104 : ByteArray),
((s_01 z104 ∧ (↑z104.size : Int) = (16 : Int)) →
chk ((z101.size + z104.size).ble (9223372036854775807 : Nat) = true) (((Hyp ((1 : Int) ≤ (6 : Int) ∧ (6 : Int) ≤ (62 : Int))) ∧
((∀ (z108 : ByteArray),
((s_01 z108 ∧ (↑z108.size : Int) = (6 : Int)) →
chk (((z101 ++ z104).size + z108.size).ble (9223372036854775807 : Nat) = true) (((Hyp ((1 : Int) ≤ (2 : Int) ∧ (2 : Int) ≤ (62 : Int))) ∧
((∀ (z112 : ByteArray),
((s_01 z112 ∧ (↑z112.size : Int) = (2 : Int)) →
((Hyp ((1 : Int) ≤ (8 : Int) ∧ (8 : Int) ≤ (62 : Int))) ∧
((∀ (z115 : ByteArray),
((s_01 z115 ∧ (↑z115.size : Int) = (8 : Int)) →
chk ((z112.size + z115.size).ble (9223372036854775807 : Nat) = true) (chk (((z101 ++ z104 ++ z108).size + (z112 ++ z115).size).ble (9223372036854775807 : Nat) = true) (((Hyp ((0 : Int) ≤ (0 : Int) ∧
  (0 : Int) ≤ (↑ec.length : Int) ∧
    ec.length ≤ (30 : Nat) ∧
      s_01 (z101 ++ z104 ++ z108 ++ (z112 ++ z115)) ∧
        (↑(z101 ++ z104 ++ z108 ++ (z112 ++ z115)).size : Int) = (34 : Int))) ∧
((∀ (z120 : ByteArray),
((s_01 z120 ∧ z120.size ≤ (334 : Nat)) →
((Hyp (z120.size ≤ (1000000 : Nat))) ∧
((∀ (z123 : Int),
((Hyp ((1 : Int) ≤ (16 : Int) ∧ (16 : Int) ≤ (62 : Int))) ∧
((∀ (z125 : ByteArray),
((s_01 z125 ∧ (↑z125.size : Int) = (16 : Int)) →
chk ((z120.size + z125.size).ble (9223372036854775807 : Nat) = true) (chk (((z120 ++ z125).size + (1 : Nat)).ble (9223372036854775807 : Nat) = true) (Q ((AV.str (z120 ++ z125 ++ (ByteArray.mk #[(35 : UInt8)])), [])))))))))))))))))))))))))))))))))))))))) := by kernel_rfl
theorem nfText5a (k r sl pk pv i : Int) (s : ByteArray) (nl : Bool) (ec : List (List AV)) (Q : Ex → List AV → List AObj → Prop) : lpBody Tryz.prog H0 V2 6 6 14 3 [.ptr 0 0, .str s, .int .i64 i] [.box [.int .i64 k, .int .i64 r, .int .i64 sl, .int .i64 pk, .int .i64 pv, .row nl [.int .i64, .int .i64] ec]] Q = (
br (decide (i < (↑ec.length : Int)))
 (chk ((0 : Int) ≤ i ∧ i < (↑ec.length : Int)) (((Hyp ((1 : Int) ≤ (2 : Int) ∧ (2 : Int) ≤ (62 : Int))) ∧
 ((∀ (z103 : ByteArray),
 ((s_01 z103 ∧ (↑z103.size : Int) = (2 : Int)) →
 ((Hyp ((1 : Int) ≤ (8 : Int) ∧ (8 : Int) ≤ (62 : Int))) ∧
 ((∀ (z106 : ByteArray),
 ((s_01 z106 ∧ (↑z106.size : Int) = (8 : Int)) →
 chk ((z103.size + z106.size).ble (9223372036854775807 : Nat) = true) (chk ((s.size + (z103 ++ z106).size).ble (9223372036854775807 : Nat) = true) (Q (Ex.nrm) ([AV.ptr (0 : Nat) (0 : Nat), AV.str (s ++ (z103 ++ z106)), AV.int IntKind.i64 (IntKind.i64.wrap (i + (1 : Int)))]) ([AObj.box
    [AV.int IntKind.i64 k, AV.int IntKind.i64 r, AV.int IntKind.i64 sl, AV.int IntKind.i64 pk, AV.int IntKind.i64 pv,
      AV.row nl [K.int IntKind.i64, K.int IntKind.i64] ec]])))))))))))))
 (Q (Ex.exit (0 : Nat)) ([AV.str s]) ([]))) := by kernel_rfl
theorem nfMk5 (n pi e g fi : Int) (nl : Bool) (ps : List (List AV)) (k r sl pk pv : Int) (nl2 : Bool) (ec : List (List AV)) (nl3 : Bool) (ns : List (List AV)) (Q : AV × List AObj → Prop) : inlW Tryz.prog H0 V2L 6 (InO Tryz.prog H0 V2L 6 6) 15 [cf n pi e g fi nl ps, .agg [.int .i64 k, .int .i64 r, .int .i64 sl, .int .i64 pk, .int .i64 pv, .row nl2 [.int .i64, .int .i64] ec], .row nl3 [.int .i64] ns] [] Q = (
chk ((0 : Int) < IntKind.i64.wrap (n + (↑ps.length : Int)) ∧
  IntKind.i64.wrap (n + (↑ps.length : Int)) < (9223372036854775808 : Int)) (br (decide (s_rem sl (IntKind.i64.wrap (n + (↑ps.length : Int))) ≥ n))
 ((∀ (k102 : Int),
 (∀ (v103 : Int),
 ((Hyp ((0 : Int) = (0 : Int) ∧ (6 : Int) ≤ n ∧ n ≤ (12 : Int) ∧ ps.length ≤ (3 : Nat))) ∧
 (((Q ((AV.agg
    [AV.int IntKind.i64 (3 : Int), AV.int IntKind.i64 (s_rem r (65536 : Int)),
      AV.int IntKind.i64 (s_rem sl (IntKind.i64.wrap (n + (↑ps.length : Int)))), AV.int IntKind.i64 k102,
      AV.int IntKind.i64 v103, AV.row true [K.int IntKind.i64, K.int IntKind.i64] []],
  []))) ∧
 ((∀ (rows106 : List (List AV)),
 ((rows106.length ≤ (15 : Nat)) →
 chk ((0 : Nat) + rows106.length ≤ rows106.length) (Q ((AV.agg
    [AV.int IntKind.i64 (3 : Int), AV.int IntKind.i64 (s_rem r (65536 : Int)),
      AV.int IntKind.i64 (s_rem sl (IntKind.i64.wrap (n + (↑ps.length : Int)))), AV.int IntKind.i64 k102,
      AV.int IntKind.i64 v103,
      AV.row false [K.int IntKind.i64, K.int IntKind.i64] (List.take rows106.length (List.drop (0 : Nat) rows106))],
  []))))))))))))
 (br (IntKind.i64.wrap ((1 : Int) + s_rem k (3 : Int)) != (3 : Int))
  (Q ((AV.agg
    [AV.int IntKind.i64 (IntKind.i64.wrap ((1 : Int) + s_rem k (3 : Int))), AV.int IntKind.i64 (s_rem r (65536 : Int)),
      AV.int IntKind.i64 (s_rem sl (IntKind.i64.wrap (n + (↑ps.length : Int)))), AV.int IntKind.i64 (0 : Int),
      AV.int IntKind.i64 (0 : Int), AV.row true [K.int IntKind.i64, K.int IntKind.i64] []],
  [])))
  ((∀ (k103 : Int),
  (∀ (v104 : Int),
  ((Hyp ((0 : Int) = (0 : Int) ∧ (6 : Int) ≤ n ∧ n ≤ (12 : Int) ∧ ps.length ≤ (3 : Nat))) ∧
  (((Q ((AV.agg
    [AV.int IntKind.i64 (IntKind.i64.wrap ((1 : Int) + s_rem k (3 : Int))), AV.int IntKind.i64 (s_rem r (65536 : Int)),
      AV.int IntKind.i64 (s_rem sl (IntKind.i64.wrap (n + (↑ps.length : Int)))), AV.int IntKind.i64 k103,
      AV.int IntKind.i64 v104, AV.row true [K.int IntKind.i64, K.int IntKind.i64] []],
  []))) ∧
  ((∀ (rows107 : List (List AV)),
  ((rows107.length ≤ (15 : Nat)) →
  chk ((0 : Nat) + rows107.length ≤ rows107.length) (Q ((AV.agg
    [AV.int IntKind.i64 (IntKind.i64.wrap ((1 : Int) + s_rem k (3 : Int))), AV.int IntKind.i64 (s_rem r (65536 : Int)),
      AV.int IntKind.i64 (s_rem sl (IntKind.i64.wrap (n + (↑ps.length : Int)))), AV.int IntKind.i64 k103,
      AV.int IntKind.i64 v104,
      AV.row false [K.int IntKind.i64, K.int IntKind.i64] (List.take rows107.length (List.drop (0 : Nat) rows107))],
  []))))))))))))))) := by kernel_rfl
theorem nfMk5a (n pi e g fi : Int) (nl : Bool) (ps : List (List AV)) (k r sl pk pv z1 z2 z3 z4 z5 i : Int) (nl3 : Bool) (ns : List (List AV)) (Q : Ex → List AV → List AObj → Prop) : lpBody Tryz.prog H0 V2 6 6 15 8 [.row nl3 [.int .i64] ns, .ptr 0 0, .ptr 1 0, .ptr 2 0, .int .i64 i] [.box [.int .i64 n, .int .i64 pi, .int .i64 e, .int .i64 g, .int .i64 fi, .row nl [.int .i64] ps], .box [.int .i64 z1, .int .i64 z2, .int .i64 z3, .int .i64 z4, .int .i64 z5, .nils], .box [.int .i64 k, .int .i64 r, .int .i64 sl, .int .i64 pk, .int .i64 pv, .nils]] Q = (
br (decide (i < IntKind.i64.wrap (n + (↑ps.length : Int))))
 (br (decide (sl < n))
  (br (decide ((↑ns.length : Int) > (0 : Int)))
   (chk ((↑ns.length : Int) ≠ (0 : Int)) (chk ((0 : Int) ≤ i.tmod (↑ns.length : Int) ∧ i.tmod (↑ns.length : Int) < (↑ns.length : Int)) (chk (IntKind.i64.wrap ((1 : Int) + i) ≠ (0 : Int)) ((∀ (k106 : Int),
   (∀ (v107 : Int),
   Q (Ex.nrm) ([AV.row nl3 [K.int IntKind.i64] ns, AV.ptr (0 : Nat) (0 : Nat), AV.ptr (1 : Nat) (0 : Nat), AV.ptr (2 : Nat) (0 : Nat),
  AV.int IntKind.i64 (IntKind.i64.wrap (i + (1 : Int)))]) ([AObj.box
    [AV.int IntKind.i64 n, AV.int IntKind.i64 pi, AV.int IntKind.i64 e, AV.int IntKind.i64 g, AV.int IntKind.i64 fi,
      AV.row nl [K.int IntKind.i64] ps],
  AObj.box
    [AV.int IntKind.i64 z1, AV.int IntKind.i64 z2, AV.int IntKind.i64 z3, AV.int IntKind.i64 z4, AV.int IntKind.i64 z5,
      AV.nils],
  AObj.box
    [AV.int IntKind.i64 k, AV.int IntKind.i64 r, AV.int IntKind.i64 sl, AV.int IntKind.i64 pk, AV.int IntKind.i64 pv,
      AV.sl (3 : Nat) (0 : Nat) (1 : Nat)],
  AObj.arr (2 : Nat) (29 : Nat) [K.int IntKind.i64, K.int IntKind.i64]
    [[AV.int IntKind.i64 k106, AV.int IntKind.i64 v107]]])))))))
   ((∀ (k103 : Int),
   (∀ (v104 : Int),
   Q (Ex.nrm) ([AV.row nl3 [K.int IntKind.i64] ns, AV.ptr (0 : Nat) (0 : Nat), AV.ptr (1 : Nat) (0 : Nat), AV.ptr (2 : Nat) (0 : Nat),
  AV.int IntKind.i64 (IntKind.i64.wrap (i + (1 : Int)))]) ([AObj.box
    [AV.int IntKind.i64 n, AV.int IntKind.i64 pi, AV.int IntKind.i64 e, AV.int IntKind.i64 g, AV.int IntKind.i64 fi,
      AV.row nl [K.int IntKind.i64] ps],
  AObj.box
    [AV.int IntKind.i64 z1, AV.int IntKind.i64 z2, AV.int IntKind.i64 z3, AV.int IntKind.i64 z4, AV.int IntKind.i64 z5,
      AV.nils],
  AObj.box
    [AV.int IntKind.i64 k, AV.int IntKind.i64 r, AV.int IntKind.i64 sl, AV.int IntKind.i64 pk, AV.int IntKind.i64 pv,
      AV.sl (3 : Nat) (0 : Nat) (1 : Nat)],
  AObj.arr (2 : Nat) (29 : Nat) [K.int IntKind.i64, K.int IntKind.i64]
    [[AV.int IntKind.i64 k103, AV.int IntKind.i64 v104]]])))))
  (Q (Ex.exit (0 : Nat)) ([AV.ptr (0 : Nat) (0 : Nat), AV.ptr (1 : Nat) (0 : Nat)]) ([AObj.box
    [AV.int IntKind.i64 z1, AV.int IntKind.i64 z2, AV.int IntKind.i64 z3, AV.int IntKind.i64 z4, AV.int IntKind.i64 z5,
      AV.nils],
  AObj.box
    [AV.int IntKind.i64 k, AV.int IntKind.i64 r, AV.int IntKind.i64 sl, AV.int IntKind.i64 pk, AV.int IntKind.i64 pv,
      AV.nils]])))
 (Q (Ex.exit (0 : Nat)) ([AV.ptr (0 : Nat) (0 : Nat), AV.ptr (1 : Nat) (0 : Nat)]) ([AObj.box
    [AV.int IntKind.i64 z1, AV.int IntKind.i64 z2, AV.int IntKind.i64 z3, AV.int IntKind.i64 z4, AV.int IntKind.i64 z5,
      AV.nils],
  AObj.box
    [AV.int IntKind.i64 k, AV.int IntKind.i64 r, AV.int IntKind.i64 sl, AV.int IntKind.i64 pk, AV.int IntKind.i64 pv,
      AV.nils]]))) := by kernel_rfl
theorem nfMk5b (n pi e g fi : Int) (nl : Bool) (ps : List (List AV)) (k r sl pk pv z1 z2 z3 z4 z5 i : Int) (nl3 : Bool) (ns : List (List AV)) (m : Nat) (rs : List (List AV)) (Q : Ex → List AV → List AObj → Prop) : lpBody Tryz.prog H0 V2 6 6 15 8 [.row nl3 [.int .i64] ns, .ptr 0 0, .ptr 1 0, .ptr 2 0, .int .i64 i] [.box [.int .i64 n, .int .i64 pi, .int .i64 e, .int .i64 g, .int .i64 fi, .row nl [.int .i64] ps], .box [.int .i64 z1, .int .i64 z2, .int .i64 z3, .int .i64 z4, .int .i64 z5, .nils], .box [.int .i64 k, .int .i64 r, .int .i64 sl, .int .i64 pk, .int .i64 pv, .sl 3 0 m], .arr 2 29 [.int .i64, .int .i64] rs] Q = (
br (decide (i < IntKind.i64.wrap (n + (↑ps.length : Int))))
 (br (decide (sl < n))
  (br (decide ((↑ns.length : Int) > (0 : Int)))
   (chk ((↑ns.length : Int) ≠ (0 : Int)) (chk ((0 : Int) ≤ i.tmod (↑ns.length : Int) ∧ i.tmod (↑ns.length : Int) < (↑ns.length : Int)) (chk (IntKind.i64.wrap ((1 : Int) + i) ≠ (0 : Int)) ((∀ (k106 : Int),
   (∀ (v107 : Int),
   chk (m = rs.length) (chk ((rs.length + (1 : Nat)) * (16 : Nat) ≤ (140737488355328 : Nat)) (chk (rs.length + (1 : Nat) ≤ (9223372036854775807 : Nat)) (Q (Ex.nrm) ([AV.row nl3 [K.int IntKind.i64] ns, AV.ptr (0 : Nat) (0 : Nat), AV.ptr (1 : Nat) (0 : Nat), AV.ptr (2 : Nat) (0 : Nat),
  AV.int IntKind.i64 (IntKind.i64.wrap (i + (1 : Int)))]) ([AObj.box
    [AV.int IntKind.i64 n, AV.int IntKind.i64 pi, AV.int IntKind.i64 e, AV.int IntKind.i64 g, AV.int IntKind.i64 fi,
      AV.row nl [K.int IntKind.i64] ps],
  AObj.box
    [AV.int IntKind.i64 z1, AV.int IntKind.i64 z2, AV.int IntKind.i64 z3, AV.int IntKind.i64 z4, AV.int IntKind.i64 z5,
      AV.nils],
  AObj.box
    [AV.int IntKind.i64 k, AV.int IntKind.i64 r, AV.int IntKind.i64 sl, AV.int IntKind.i64 pk, AV.int IntKind.i64 pv,
      AV.sl (3 : Nat) (0 : Nat) (rs.length + (1 : Nat))],
  AObj.arr (2 : Nat) (29 : Nat) [K.int IntKind.i64, K.int IntKind.i64]
    (rs ++ [[AV.int IntKind.i64 k106, AV.int IntKind.i64 v107]])]))))))))))
   ((∀ (k103 : Int),
   (∀ (v104 : Int),
   chk (m = rs.length) (chk ((rs.length + (1 : Nat)) * (16 : Nat) ≤ (140737488355328 : Nat)) (chk (rs.length + (1 : Nat) ≤ (9223372036854775807 : Nat)) (Q (Ex.nrm) ([AV.row nl3 [K.int IntKind.i64] ns, AV.ptr (0 : Nat) (0 : Nat), AV.ptr (1 : Nat) (0 : Nat), AV.ptr (2 : Nat) (0 : Nat),
  AV.int IntKind.i64 (IntKind.i64.wrap (i + (1 : Int)))]) ([AObj.box
    [AV.int IntKind.i64 n, AV.int IntKind.i64 pi, AV.int IntKind.i64 e, AV.int IntKind.i64 g, AV.int IntKind.i64 fi,
      AV.row nl [K.int IntKind.i64] ps],
  AObj.box
    [AV.int IntKind.i64 z1, AV.int IntKind.i64 z2, AV.int IntKind.i64 z3, AV.int IntKind.i64 z4, AV.int IntKind.i64 z5,
      AV.nils],
  AObj.box
    [AV.int IntKind.i64 k, AV.int IntKind.i64 r, AV.int IntKind.i64 sl, AV.int IntKind.i64 pk, AV.int IntKind.i64 pv,
      AV.sl (3 : Nat) (0 : Nat) (rs.length + (1 : Nat))],
  AObj.arr (2 : Nat) (29 : Nat) [K.int IntKind.i64, K.int IntKind.i64]
    (rs ++ [[AV.int IntKind.i64 k103, AV.int IntKind.i64 v104]])]))))))))
  (Q (Ex.exit (0 : Nat)) ([AV.ptr (0 : Nat) (0 : Nat), AV.ptr (1 : Nat) (0 : Nat)]) ([AObj.box
    [AV.int IntKind.i64 z1, AV.int IntKind.i64 z2, AV.int IntKind.i64 z3, AV.int IntKind.i64 z4, AV.int IntKind.i64 z5,
      AV.nils],
  AObj.box
    [AV.int IntKind.i64 k, AV.int IntKind.i64 r, AV.int IntKind.i64 sl, AV.int IntKind.i64 pk, AV.int IntKind.i64 pv,
      AV.sl (2 : Nat) (0 : Nat) m],
  AObj.arr (2 : Nat) (29 : Nat) [K.int IntKind.i64, K.int IntKind.i64] rs])))
 (Q (Ex.exit (0 : Nat)) ([AV.ptr (0 : Nat) (0 : Nat), AV.ptr (1 : Nat) (0 : Nat)]) ([AObj.box
    [AV.int IntKind.i64 z1, AV.int IntKind.i64 z2, AV.int IntKind.i64 z3, AV.int IntKind.i64 z4, AV.int IntKind.i64 z5,
      AV.nils],
  AObj.box
    [AV.int IntKind.i64 k, AV.int IntKind.i64 r, AV.int IntKind.i64 sl, AV.int IntKind.i64 pk, AV.int IntKind.i64 pv,
      AV.sl (2 : Nat) (0 : Nat) m],
  AObj.arr (2 : Nat) (29 : Nat) [K.int IntKind.i64, K.int IntKind.i64] rs]))) := by kernel_rfl
end Go.Proofs.YtiemjcchlfbglaaGreatE
/- The document's frames, roughly: the specs hold. -/
namespace Go.Proofs.YtiemjcchlfbglaaGreatE
open Go
set_option linter.unusedVariables false
set_option linter.unusedSimpArgs false
set_option maxRecDepth 100000

theorem ble {a b : Nat} (h : a ≤ b) : Nat.ble a b = true := by rw [Nat.ble_eq]; exact h
theorem okV1 : OkSp Tryz.prog H0 V1 := ⟨⟨within_ok nfRest, okU5.fn⟩, trivial⟩
theorem okAt4 : OkS Tryz.prog H0 18 sAt4 := by
  intro args h Q hq
  unfold sAt4 at hq
  split at hq
  · rename_i n i d
    obtain ⟨⟨h1, h2, h3, h4, h5, h6⟩, hq⟩ := hyp_iff.1 hq
    refine in_ok (S := V1) (U := 6) (k := 6) okV1 (to (nfAt4 ..) ?_)
    rw [wr (x := i + d) (by omega) (by omega), chk_iff]
    exact ⟨⟨h1, by omega⟩, hq⟩
  · exact hq.elim
theorem okDist4 : OkS Tryz.prog H0 26 sDist4 := by
  intro args h Q hq
  unfold sDist4 at hq
  split at hq
  · rename_i n a b dir
    obtain ⟨⟨h1, h2, h3, h4, h5, h6, h7⟩, hq⟩ := hyp_iff.1 hq
    refine in_ok (S := V1) (U := 6) (k := 6) okV1 (to (nfDist4 ..) ?_)
    have w : -1000000 ≤ dir * (b - a) ∧ dir * (b - a) ≤ 1000000 := by rcases h7 with rfl | rfl <;> omega
    rw [wr (x := b - a) (by omega) (by omega), wr (x := dir * (b - a)) (by omega) (by omega), chk_iff]
    exact ⟨⟨h1, by omega⟩, hq⟩
  · exact hq.elim
theorem okItem5 : OkS Tryz.prog H0 21 sItem5 := by
  intro args h Q hq
  unfold sItem5 at hq
  split at hq
  · refine in_ok (S := V1) (U := 6) (k := 6) okV1 (to (nfItem5 ..) ?_)
    exact br_intro (fun _ => br_intro (fun _ => hq _ _) fun _ => br_intro (fun _ => hq _ _) fun _ => hq _ _) fun _ => br_intro (fun _ => hq _ _) fun _ => hq _ _
  · exact hq.elim
theorem s01_app {a b : ByteArray} (ha : s_01 a) (hb : s_01 b) : s_01 (a ++ b) := fun x hx => by
  rw [ByteArray.data_append, Array.toList_append, List.mem_append] at hx
  exact hx.elim (ha x) (hb x)
theorem s01_0 : s_01 (ByteArray.mk #[48]) := fun x hx => by
  have : x = 48 := by simpa using hx
  exact .inl this
theorem s01_1 : s_01 (ByteArray.mk #[49]) := fun x hx => by
  have : x = 49 := by simpa using hx
  exact .inr this
theorem s01_nil : s_01 (ByteArray.mk #[]) := fun x hx => by simp at hx
theorem okLBits1 : OkLp Tryz.prog H0 35 5 lBits1 := by
  refine okLp_of (U := 6) (k := 6) okV1 lBits1 (fun vals _ => match vals with | [_, _, .int _ i] => (i + 1).toNat | _ => 0) fun vals h Q hl => ?_
  unfold lBits1 at hl
  split at hl
  · rename_i n s i
    obtain ⟨⟨h0, h1, h2, h3⟩, hq⟩ := hyp_iff.1 hl
    refine to (nfBits1a ..) (br_intro (fun c => ?_) fun c => ?_)
    · have c := of_decide_eq_true c
      have wu : IntKind.u64.wrap i = i := by rw [IntKind.wrap_u64]; omega
      have wi : IntKind.i64.wrap (i - 1) = i - 1 := wr (by omega) (by omega)
      rw [wu, wi, chk_iff]
      refine ⟨by omega, fun _ _ _ _ => br_intro (fun _ => ?_) fun _ => ?_⟩
      · rw [chk_iff]
        refine ⟨ble (by omega), by show (i - 1 + 1).toNat < (i + 1).toNat; omega, hyp_iff.2 ⟨⟨by omega, by omega, s01_app h2 s01_1, by rw [ByteArray.size_append]; show ((s.size + 1 : Nat) : Int) + (i - 1) ≤ 61; omega⟩, fun z hz => hq z ⟨hz.1, ?_⟩⟩⟩
        rw [hz.2, ByteArray.size_append]
        show ((s.size + 1 : Nat) : Int) + (i - 1) + 1 = _
        omega
      · rw [chk_iff]
        refine ⟨ble (by omega), by show (i - 1 + 1).toNat < (i + 1).toNat; omega, hyp_iff.2 ⟨⟨by omega, by omega, s01_app h2 s01_0, by rw [ByteArray.size_append]; show ((s.size + 1 : Nat) : Int) + (i - 1) ≤ 61; omega⟩, fun z hz => hq z ⟨hz.1, ?_⟩⟩⟩
        rw [hz.2, ByteArray.size_append]
        show ((s.size + 1 : Nat) : Int) + (i - 1) + 1 = _
        omega
    · have c := of_decide_eq_false c
      exact hq s ⟨h2, by omega⟩
  · exact hl.elim
theorem okLSum2 : OkLp Tryz.prog H0 55 3 lSum2 := by
  refine okLp_of (U := 6) (k := 6) okV1 lSum2 (fun vals _ => match vals with | [.str s, _, .int _ i] => ((s.size : Int) - i).toNat | _ => 0) fun vals h Q hl => ?_
  unfold lSum2 at hl
  split at hl
  · rename_i s reg i
    obtain ⟨⟨h0, h1, h2⟩, hq⟩ := hyp_iff.1 hl
    refine to (nfSum2a ..) (br_intro (fun c => ?_) fun c => hq _)
    have c := of_decide_eq_true c
    have wi : IntKind.i64.wrap (i + 1) = i + 1 := wr (by omega) (by omega)
    rw [wi]
    intro _ _ _ _ _ _
    rw [chk_iff]
    exact ⟨⟨h0, c⟩, br_intro (fun _ => fun _ _ => ⟨by show ((s.size : Int) - (i + 1)).toNat < ((s.size : Int) - i).toNat; omega, hyp_iff.2 ⟨⟨by omega, by omega, h2⟩, hq⟩⟩) fun _ => ⟨by show ((s.size : Int) - (i + 1)).toNat < ((s.size : Int) - i).toNat; omega, hyp_iff.2 ⟨⟨by omega, by omega, h2⟩, hq⟩⟩⟩
  · exact hl.elim
theorem okV1L : OkSp Tryz.prog H0 V1L := ⟨okV1.fn, okLBits1, okLSum2, trivial⟩
theorem okBits1 : OkS Tryz.prog H0 35 sBits1 := by
  intro args h Q hq
  unfold sBits1 at hq
  split at hq
  · rename_i n size
    obtain ⟨⟨h1, h2⟩, hq⟩ := hyp_iff.1 hq
    refine in_ok (S := V1L) (U := 6) (k := 6) okV1L (to (nfBits1 ..) ?_)
    have wi : IntKind.i64.wrap (size - 1) = size - 1 := wr (by omega) (by omega)
    rw [wi]
    refine br_intro (fun c => absurd (of_decide_eq_true c) (by omega)) fun _ => br_intro (fun c => absurd (of_decide_eq_true c) (by omega)) fun _ => hyp_iff.2 ⟨⟨by omega, by omega, s01_nil, by omega⟩, fun z hz => hq z ⟨hz.1, by have := hz.2; omega⟩⟩
  · exact hq.elim
theorem okSum2 : OkS Tryz.prog H0 55 sSum2 := by
  intro args h Q hq
  unfold sSum2 at hq
  split at hq
  · obtain ⟨h1, hq⟩ := hyp_iff.1 hq
    exact in_ok (S := V1L) (U := 6) (k := 6) okV1L (to (nfSum2 ..) (hyp_iff.2 ⟨⟨by omega, by omega, h1⟩, hq⟩))
  · exact hq.elim
theorem okV2 : OkSp Tryz.prog H0 V2 := ⟨⟨okAt4, okDist4, okItem5, okBits1, okSum2, okV1.fn⟩, trivial⟩
theorem okLText5 : OkLp Tryz.prog H0 14 3 lText5 := by
  refine okLp_of (U := 6) (k := 6) okV2 lText5 (fun vals h => match vals, h with | [_, _, .int _ i], [.box [_, _, _, _, _, .row _ _ ec]] => ((ec.length : Int) - i).toNat | _, _ => 0) fun vals h Q hl => ?_
  unfold lText5 at hl
  split at hl
  · rename_i s i k r sl pk pv nl ec
    obtain ⟨⟨h0, h1, h2, h3, h4⟩, hq⟩ := hyp_iff.1 hl
    refine to (nfText5a ..) (br_intro (fun c => ?_) fun c => ?_)
    · have c := of_decide_eq_true c
      have wi : IntKind.i64.wrap (i + 1) = i + 1 := wr (by omega) (by omega)
      rw [wi]
      simp only [chk_iff, hyp_iff]
      refine ⟨⟨h0, c⟩, by omega, fun z1 hz1 => ⟨by omega, fun z2 hz2 => ⟨ble (by omega), ble (by rw [ByteArray.size_append]; omega), by show ((ec.length : Int) - (i + 1)).toNat < ((ec.length : Int) - i).toNat; omega, hyp_iff.2 ⟨⟨by omega, by omega, h2, s01_app h3 (s01_app hz1.1 hz2.1), by rw [ByteArray.size_append, ByteArray.size_append]; omega⟩, hq⟩⟩⟩⟩
    · have c := of_decide_eq_false c
      exact hq s ⟨h3, by omega⟩
  · exact hl.elim
theorem okLMk5 : OkLp Tryz.prog H0 15 8 lMk5 := by
  refine okLp_of (U := 6) (k := 6) okV2 lMk5 (fun vals h => match vals, h with | [_, _, _, _, .int _ i], .box [.int _ n, _, _, _, _, .row _ _ ps] :: _ => (n + ps.length - i).toNat | _, _ => 0) fun vals h Q hl => ?_
  unfold lMk5 at hl
  split at hl
  · rename_i nl3 ns i n pi e g fi nl ps z1 z2 z3 z4 z5 k r sl pk pv
    obtain ⟨⟨h0, h1, h2, h3⟩, hq1, hq2⟩ := hyp_iff.1 hl
    subst h0
    have wn : IntKind.i64.wrap (n + (ps.length : Int)) = n + ps.length := wr (by omega) (by omega)
    have w1 : IntKind.i64.wrap (0 + 1) = 1 := wr (by omega) (by omega)
    have w2 : IntKind.i64.wrap (1 + 0) = 1 := wr (by omega) (by omega)
    refine to (nfMk5a ..) ?_
    rw [wn]
    refine br_intro (fun c => br_intro (fun c2 => br_intro (fun c3 => ?_) fun c3 => ?_) fun _ => hq1) fun _ => hq1
    · have c3 := of_decide_eq_true c3
      rw [w1, w2, chk_iff, chk_iff, chk_iff]
      refine ⟨by omega, by simp; omega, by omega, fun a b => ⟨by show (n + ps.length - 1).toNat < (n + ps.length - 0).toNat; omega, ⟨by omega, rfl, by omega, h1, h2, h3⟩, hq2⟩⟩
    · rw [w1]
      exact fun a b => ⟨by show (n + ps.length - 1).toNat < (n + ps.length - 0).toNat; omega, ⟨by omega, rfl, by omega, h1, h2, h3⟩, hq2⟩
  · rename_i nl3 ns i n pi e g fi nl ps z1 z2 z3 z4 z5 k r sl pk pv m rs
    obtain ⟨⟨h0, h4, h5, h1, h2, h3⟩, hq⟩ := hl
    have wn : IntKind.i64.wrap (n + (ps.length : Int)) = n + ps.length := wr (by omega) (by omega)
    have w1 : IntKind.i64.wrap (i + 1) = i + 1 := wr (by omega) (by omega)
    have w2 : IntKind.i64.wrap (1 + i) = 1 + i := wr (by omega) (by omega)
    have fin := hq rs (by omega)
    rw [h4] at fin
    refine to (nfMk5b ..) ?_
    rw [wn]
    refine br_intro (fun c => ?_) fun _ => fin
    have c := of_decide_eq_true c
    refine br_intro (fun c2 => br_intro (fun c3 => ?_) fun c3 => ?_) fun _ => fin
    · have c3 := of_decide_eq_true c3
      have ht1 := Int.tmod_nonneg (ns.length : Int) (show 0 ≤ i by omega)
      have ht2 := Int.tmod_lt_of_pos i c3
      rw [w1, w2]
      simp only [chk_iff]
      refine ⟨by omega, ⟨ht1, ht2⟩, by omega, fun a b => ⟨by omega, by omega, by omega, by show (n + ps.length - (i + 1)).toNat < (n + ps.length - i).toNat; omega, ⟨by omega, by simp, by omega, h1, h2, h3⟩, hq⟩⟩
    · rw [w1]
      simp only [chk_iff]
      exact fun a b => ⟨by omega, by omega, by omega, by show (n + ps.length - (i + 1)).toNat < (n + ps.length - i).toNat; omega, ⟨by omega, by simp, by omega, h1, h2, h3⟩, hq⟩
  · exact hl.elim
theorem okV2L : OkSp Tryz.prog H0 V2L := ⟨okV2.fn, okLText5, okLMk5, trivial⟩
theorem cleanN_01 : ∀ (l : List UInt8), (∀ b ∈ l, b = 48 ∨ b = 49) → cleanN (l ++ [35]) = l.length + 1
  | [], _ => rfl
  | b :: l, h => by
    have ih := cleanN_01 l fun x hx => h x (by simp [hx])
    have hb : b = 48 ∨ b = 49 := h b (by simp)
    have h35 : ¬ b = 35 := by rcases hb with rfl | rfl <;> decide
    show cleanN (b :: (l ++ [35])) = _
    simp only [cleanN]
    rw [if_neg h35, if_pos hb, ih]
    simp
theorem clean_tail {z : ByteArray} (h : s_01 z) : s_clean (z ++ ByteArray.mk #[35]) = z ++ ByteArray.mk #[35] := by
  refine clean_end ?_
  rw [ByteArray.data_append, Array.toList_append]
  show cleanN (z.data.toList ++ [35]) = _
  rw [cleanN_01 _ h, ByteArray.size_append, Array.length_toList]
  rfl
theorem okText5 : OkS Tryz.prog H0 14 sText5 := by
  intro args h Q hq
  unfold sText5 at hq
  split at hq
  · rename_i n pi e g fi nl' ps k r sl pk pv nl ec
    obtain ⟨h1, hq⟩ := hyp_iff.1 hq
    refine in_ok (S := V2L) (U := 6) (k := 6) okV2L (to (nfText5 ..) ?_)
    simp only [chk_iff, hyp_iff]
    refine ⟨by omega, fun a ha => ⟨by omega, fun b hb => ⟨ble (by omega), by omega, fun c hc => ⟨ble (by rw [ByteArray.size_append]; omega), by omega, fun d hd => ⟨by omega, fun e' he => ⟨ble (by omega), ble (by simp only [ByteArray.size_append]; omega),
      ⟨by omega, by omega, h1, s01_app (s01_app (s01_app ha.1 hb.1) hc.1) (s01_app hd.1 he.1), by simp only [ByteArray.size_append]; omega⟩, fun t ht => ⟨by omega, fun _ => ⟨by omega, fun u hu => ⟨ble (by omega), ble (by rw [ByteArray.size_append]; omega), hq _ ⟨clean_tail (s01_app ht.1 hu.1), ?_, ?_⟩⟩⟩⟩⟩⟩⟩⟩⟩⟩
    · rw [ByteArray.size_append, ByteArray.size_append]
      show 0 < _ + 1
      omega
    · rw [ByteArray.size_append, ByteArray.size_append]
      show t.size + u.size + 1 ≤ 1000
      omega
  · exact hq.elim
theorem okMk5 : OkS Tryz.prog H0 15 sMk5 := by
  intro args h Q hq
  unfold sMk5 at hq
  split at hq
  · rename_i n pi e g fi nl ps k r sl pk pv nl2 ec nl3 ns
    obtain ⟨⟨h1, h2, h3⟩, hq⟩ := hyp_iff.1 hq
    refine in_ok (S := V2L) (U := 6) (k := 6) okV2L (to (nfMk5 ..) ?_)
    have wn : IntKind.i64.wrap (n + (ps.length : Int)) = n + ps.length := wr (by omega) (by omega)
    rw [wn]
    simp only [chk_iff, hyp_iff]
    refine ⟨⟨by omega, by omega⟩, br_intro (fun _ => ?_) fun _ => br_intro (fun _ => hq _ _ _ _ _ _ _ (Nat.zero_le _)) fun _ => ?_⟩
    · exact fun a b => ⟨⟨trivial, h1, h2, h3⟩, hq _ _ _ _ _ _ _ (Nat.zero_le _), fun rows hr => ⟨by omega, hq _ _ _ _ _ _ _ (by rw [List.drop_zero, List.take_length]; exact hr)⟩⟩
    · exact fun a b => ⟨⟨trivial, h1, h2, h3⟩, hq _ _ _ _ _ _ _ (Nat.zero_le _), fun rows hr => ⟨by omega, hq _ _ _ _ _ _ _ (by rw [List.drop_zero, List.take_length]; exact hr)⟩⟩
  · exact hq.elim
theorem okV3 : OkSp Tryz.prog H0 V3 := ⟨⟨okText5, okMk5, okV2.fn⟩, trivial⟩
end Go.Proofs.YtiemjcchlfbglaaGreatE
/- Cases of the laws of spread: calm ones. -/
namespace Go.Proofs.YtiemjcchlfbglaaGreatE
open Go
set_option linter.unusedVariables false

def s_rep (m : Nat) (v : Int) : List (List AV) := List.replicate m [.int .i64 v]
def sKnown9 : SW := fun args h Q => match args, h with
  | [], [] => Q (.bool true, [])
  | _, _ => False
def V4 : Sp := ⟨(7, sKnown9) :: V3.fn, []⟩
end Go.Proofs.YtiemjcchlfbglaaGreatE
/- What path mode says of functions, printed by a program of this session; the kernel holds each. -/
namespace Go.Proofs.YtiemjcchlfbglaaGreatE
open Go
set_option maxRecDepth 100000
set_option linter.unusedVariables false
theorem nfKnown (Q : AV × List AObj → Prop) : inlW Tryz.prog H0 V3 8 (InO Tryz.prog H0 V3 8 8) 7 [] [] Q = (
((Hyp (true = true ∧
  ([] : List (List AV)) = [] ∧
    s_runOk
        { n := (6 : Int), dir := (1 : Int), kind := (0 : Int), at_ := (0 : Int), fr := (0 : Int), to_ := (0 : Int),
          ro := (0 : Int), sl := (0 : Int), pi := (4 : Int),
          sts :=
            [[AV.int IntKind.i64 (0 : Int)], [AV.int IntKind.i64 (0 : Int)], [AV.int IntKind.i64 (0 : Int)],
              [AV.int IntKind.i64 (0 : Int)], [AV.int IntKind.i64 (0 : Int)], [AV.int IntKind.i64 (0 : Int)]],
          dvs :=
            [[AV.int IntKind.i64 (0 : Int)], [AV.int IntKind.i64 (0 : Int)], [AV.int IntKind.i64 (0 : Int)],
              [AV.int IntKind.i64 (0 : Int)], [AV.int IntKind.i64 (0 : Int)], [AV.int IntKind.i64 (0 : Int)]] } ∧
      (3 : Nat) ≤ (1000000 : Nat))) ∧
((∀ (rows101 : List (List AV)),
((rows101 =
  s_runS
    { n := (6 : Int), dir := (1 : Int), kind := (0 : Int), at_ := (0 : Int), fr := (0 : Int), to_ := (0 : Int),
      ro := (0 : Int), sl := (0 : Int), pi := (4 : Int),
      sts :=
        [[AV.int IntKind.i64 (0 : Int)], [AV.int IntKind.i64 (0 : Int)], [AV.int IntKind.i64 (0 : Int)],
          [AV.int IntKind.i64 (0 : Int)], [AV.int IntKind.i64 (0 : Int)], [AV.int IntKind.i64 (0 : Int)]],
      dvs :=
        [[AV.int IntKind.i64 (0 : Int)], [AV.int IntKind.i64 (0 : Int)], [AV.int IntKind.i64 (0 : Int)],
          [AV.int IntKind.i64 (0 : Int)], [AV.int IntKind.i64 (0 : Int)], [AV.int IntKind.i64 (0 : Int)]] }
    (ByteArray.mk #[(48 : UInt8), (49 : UInt8), (35 : UInt8)]) (5 : Nat)) →
((Hyp (true = true ∧
  ([] : List (List AV)) = [] ∧
    s_runOk
        { n := (6 : Int), dir := (1 : Int), kind := (0 : Int), at_ := (0 : Int), fr := (0 : Int), to_ := (0 : Int),
          ro := (0 : Int), sl := (0 : Int), pi := (4 : Int),
          sts :=
            [[AV.int IntKind.i64 (4 : Int)], [AV.int IntKind.i64 (4 : Int)], [AV.int IntKind.i64 (4 : Int)],
              [AV.int IntKind.i64 (4 : Int)], [AV.int IntKind.i64 (4 : Int)], [AV.int IntKind.i64 (4 : Int)]],
          dvs :=
            [[AV.int IntKind.i64 (0 : Int)], [AV.int IntKind.i64 (0 : Int)], [AV.int IntKind.i64 (0 : Int)],
              [AV.int IntKind.i64 (0 : Int)], [AV.int IntKind.i64 (0 : Int)], [AV.int IntKind.i64 (0 : Int)]] } ∧
      (3 : Nat) ≤ (1000000 : Nat))) ∧
((∀ (rows104 : List (List AV)),
((rows104 =
  s_runS
    { n := (6 : Int), dir := (1 : Int), kind := (0 : Int), at_ := (0 : Int), fr := (0 : Int), to_ := (0 : Int),
      ro := (0 : Int), sl := (0 : Int), pi := (4 : Int),
      sts :=
        [[AV.int IntKind.i64 (4 : Int)], [AV.int IntKind.i64 (4 : Int)], [AV.int IntKind.i64 (4 : Int)],
          [AV.int IntKind.i64 (4 : Int)], [AV.int IntKind.i64 (4 : Int)], [AV.int IntKind.i64 (4 : Int)]],
      dvs :=
        [[AV.int IntKind.i64 (0 : Int)], [AV.int IntKind.i64 (0 : Int)], [AV.int IntKind.i64 (0 : Int)],
          [AV.int IntKind.i64 (0 : Int)], [AV.int IntKind.i64 (0 : Int)], [AV.int IntKind.i64 (0 : Int)]] }
    (ByteArray.mk #[(48 : UInt8), (49 : UInt8), (35 : UInt8)]) (5 : Nat)) →
br ((↑rows101.length : Int) == (6 : Int))
 (chk ((0 : Int) ≤ (0 : Int) ∧ (0 : Int) < (↑rows101.length : Int)) (br (((rows101.getD (0 : Nat) []).getD (2 : Nat) AV.gone).toS.toList ==
  (ByteArray.mk #[(48 : UInt8), (49 : UInt8), (35 : UInt8)]).toList)
  (chk ((0 : Int) ≤ (1 : Int) ∧ (1 : Int) < (↑rows101.length : Int)) (br (((rows101.getD (1 : Nat) []).getD (2 : Nat) AV.gone).toS.toList == (ByteArray.mk #[]).toList)
   (br ((↑rows104.length : Int) == (6 : Int))
    (chk ((0 : Int) ≤ (5 : Int) ∧ (5 : Int) < (↑rows104.length : Int)) (br (((rows104.getD (5 : Nat) []).getD (2 : Nat) AV.gone).toS.toList ==
  (ByteArray.mk #[(48 : UInt8), (49 : UInt8), (35 : UInt8)]).toList)
     (chk ((0 : Int) ≤ (5 : Int) ∧ (5 : Int) < (↑rows104.length : Int)) (Q ((AV.bool (((rows104.getD (5 : Nat) []).getD (3 : Nat) AV.gone).toI == (5 : Int)), []))))
     (Q ((AV.bool false, [])))))
    (Q ((AV.bool false, []))))
   (Q ((AV.bool false, [])))))
  (Q ((AV.bool false, [])))))
 (Q ((AV.bool false, [])))))))))))) := by kernel_rfl
end Go.Proofs.YtiemjcchlfbglaaGreatE
/- Cases of the laws of spread: the specs hold. -/
namespace Go.Proofs.YtiemjcchlfbglaaGreatE
open Go
set_option linter.unusedVariables false
set_option linter.unusedSimpArgs false
set_option maxRecDepth 100000

theorem side_pos {s : ByteArray} {D S O : Nat → Bool} {k : Nat} (hk : k ≠ 0) : sideR s D S O k = [.str (bs s (D k)), .str (bs s (S k)), .str (bs s (O k)), .int .i64 k] := if_neg hk
theorem get_out {P : RP} {s : ByteArray} (hok : s_runOk P) (hs : s_clean s = s) {i : Nat} (hi : (i : Int) < P.n) :
    (((s_runS P s (P.n - 1).toNat).getD i []).getD 2 AV.gone).toS = bs s (oP P (s_far P.n P.sl P.dir i).toNat) := by
  rw [run_get hok hs hi]
  exact out_side _
theorem get_far {P : RP} {s : ByteArray} (hok : s_runOk P) (hs : s_clean s = s) {i : Nat} (hi : (i : Int) < P.n) :
    (((s_runS P s (P.n - 1).toNat).getD i []).getD 3 AV.gone).toI = s_far P.n P.sl P.dir i := by
  rw [run_get hok hs hi]
  have h := (far_lt (n := P.n) (o := P.sl) (dir := P.dir) (by have := hok.1; omega) i).1
  unfold sideR
  split
  · rename_i h0
    show (0 : Int) = _
    omega
  · exact Int.toNat_of_nonneg h
theorem okKnown9 : OkS Tryz.prog H0 7 sKnown9 := by
  intro args h Q hq
  unfold sKnown9 at hq
  split at hq
  · refine in_ok (S := V3) (U := 8) (k := 8) okV3 (to (nfKnown ..) ?_)
    have hs : s_clean (ByteArray.mk #[48, 49, 35]) = ByteArray.mk #[48, 49, 35] := by decide +kernel
    have ok1 : ∀ v : Int, s_runOk ⟨6, 1, 0, 0, 0, 0, 0, 0, 4, [[.int .i64 v], [.int .i64 v], [.int .i64 v], [.int .i64 v], [.int .i64 v], [.int .i64 v]], [[.int .i64 0], [.int .i64 0], [.int .i64 0], [.int .i64 0], [.int .i64 0], [.int .i64 0]]⟩ := fun v =>
      ⟨(by decide : (6 : Int) ≤ 6), (by decide : (6 : Int) ≤ 12), .inl rfl, (by decide : (0 : Int) ≤ 0), (by decide : (0 : Int) < 6), (by decide : (0 : Int) ≤ 0), (by decide : (0 : Int) ≤ 1000000), (by decide : (0 : Int) ≤ 4), (by decide : (4 : Int) ≤ 1000000), rfl, rfl⟩
    refine hyp_iff.2 ⟨⟨rfl, rfl, ok1 0, by omega⟩, fun l hl => hyp_iff.2 ⟨⟨rfl, rfl, ok1 4, by omega⟩, fun m hm => ?_⟩⟩
    have ll : l.length = 6 := by rw [hl]; exact run_len (ok1 0) hs
    have lm : m.length = 6 := by rw [hm]; exact run_len (ok1 4) hs
    have a0 := get_out (ok1 0) hs (i := 0) (by decide)
    have a1 := get_out (ok1 0) hs (i := 1) (by decide)
    have a5 := get_out (ok1 4) hs (i := 5) (by decide)
    have b5 := get_far (ok1 4) hs (i := 5) (by decide)
    have a0 : ((l.getD 0 []).getD 2 AV.gone).toS = ByteArray.mk #[48, 49, 35] := by rw [hl]; exact a0
    have a1 : ((l.getD 1 []).getD 2 AV.gone).toS = ByteArray.mk #[] := by rw [hl]; exact a1
    have a5 : ((m.getD 5 []).getD 2 AV.gone).toS = ByteArray.mk #[48, 49, 35] := by rw [hm]; exact a5
    have b5 : ((m.getD 5 []).getD 3 AV.gone).toI = 5 := by rw [hm]; exact b5
    refine br_intro (fun _ => ?_) fun c => absurd (beq_eq_false_iff_ne.1 c) (by omega)
    rw [chk_iff]
    refine ⟨by omega, br_intro (fun _ => ?_) fun c => ?_⟩
    · rw [chk_iff]
      refine ⟨by omega, br_intro (fun _ => ?_) fun c => ?_⟩
      · refine br_intro (fun _ => ?_) fun c => absurd (beq_eq_false_iff_ne.1 c) (by omega)
        rw [chk_iff]
        refine ⟨by omega, br_intro (fun _ => ?_) fun c => ?_⟩
        · rw [chk_iff, b5]
          exact ⟨by omega, hq⟩
        · rw [a5] at c; exact absurd (beq_eq_false_iff_ne.1 c) (by simp)
      · rw [a1] at c; exact absurd (beq_eq_false_iff_ne.1 c) (by simp)
    · rw [a0] at c; exact absurd (beq_eq_false_iff_ne.1 c) (by simp)
  · exact hq.elim
theorem rep_succ (m : Nat) (v : Int) : s_rep m v ++ [[AV.int .i64 v]] = s_rep (m + 1) v := by
  unfold s_rep
  rw [List.replicate_succ']
theorem rep_len (m : Nat) (v : Int) : (s_rep m v).length = m := by simp [s_rep]
theorem okV4 : OkSp Tryz.prog H0 V4 := ⟨⟨okKnown9, okV3.fn⟩, trivial⟩
end Go.Proofs.YtiemjcchlfbglaaGreatE
