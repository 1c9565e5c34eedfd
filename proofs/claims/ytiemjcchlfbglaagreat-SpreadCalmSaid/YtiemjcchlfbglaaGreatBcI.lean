/- What a locus emits, roughly: any text of a bounded length. -/
import Derived.Test.YtiemjcchlfbglaaGreatBcB
import Derived.KernelRfl
import Derived.Laws.RangeAny
import Derived.Laws.RangeString
namespace Go.Proofs.YtiemjcchlfbglaaGreatE
open Go
set_option linter.unusedVariables false

def lBitsR : LW := fun vals h Q => match vals, h with
  | [.int .i64 n, .int .i64 size, .sl 0 0 m, .int .i64 len, .int .i64 i], [.arr 2 5 [.int .u8] rows] =>
    Hyp (0 ≤ i ∧ i ≤ size ∧ len = size ∧ (m : Int) = size ∧ rows.length = m ∧ size ≤ 62) ∧ ∀ rows', rows'.length = m → Q (.exit 0) [.sl 0 0 m] [.arr 2 5 [.int .u8] rows']
  | _, _ => False
def sBitsR : SW := fun args h Q => match args, h with
  | [.int .i64 n, .int .i64 size], [] => Hyp (1 ≤ size ∧ size ≤ 62) ∧ ∀ z : ByteArray, (z.size : Int) = size → Q (.str z, [])
  | _, _ => False
def lSumR : LW := fun vals h Q => match vals, h with
  | [.int .i64 n, .ptr 0 0], [.iter s p] => ∀ z : Int, Q (.exit 0) [.int .i64 z] []
  | _, _ => False
def sSumR : SW := fun args h Q => match args, h with
  | [.str s], [] => ∀ z : Int, Q (.int .i64 z, [])
  | _, _ => False
def lNextR : LW := fun vals h Q => match vals, h with
  | [.ptr 0 0, .int .i64 size, .int .i64 n, .ptr 1 0], [.box [.str s], .iter t p] => ∀ z : Int, Q (.exit 0) [.ptr 0 0, .int .i64 size, .int .i64 z] [.box [.str s]]
  | _, _ => False
def sNextR : SW := fun args h Q => match args, h with
  | [.ptr 0 0, .int .i64 size], [.box [.str s]] => Hyp (0 ≤ size ∧ size ≤ s.size) ∧ ∀ (z : Int) (t : ByteArray), (t.size : Int) + size = s.size → Q (.int .i64 z, [.box [.str t]])
  | _, _ => False
def sItemR : SW := fun args h Q => match args, h with
  | [.ptr 0 0], [.box [.str s]] => Hyp (10 ≤ s.size) ∧ ∀ (k v : Int) (t : ByteArray), t.size + 10 = s.size → Q (.agg [.int .i64 k, .int .i64 v], [.box [.str t]])
  | _, _ => False
def sOpenR : SW := fun args h Q => match args, h with
  | [.str s], [] => Hyp (s.size ≤ 1000000) ∧ ∀ (z : ByteArray) (e : Int), z.size ≤ s.size → Q (.tup [.str z, .int .i64 e], [])
  | _, _ => False
def sWrapR : SW := fun args h Q => match args, h with
  | [.str s], [] => Hyp (s.size ≤ 1000000) ∧ ∀ z : ByteArray, z.size = s.size + 17 → Q (.str z, [])
  | _, _ => False
def sEchoes : SW := fun args h Q => match args, h with
  | [.agg [.int .i64 n, .int .i64 pi, .int .i64 e, .int .i64 g, .int .i64 fi, .row nl [.int .i64] ps], .int .i64 k, .int .i64 sl], [] => Hyp (0 ≤ n ∧ n ≤ 1000 ∧ ps.length ≤ 1000) ∧ (Q (.int .i64 0, []) ∧ ∀ m : Int, m = n + ps.length → Q (.int .i64 m, []))
  | _, _ => False
def sValR : SW := fun args h Q => match args, h with
  | [.agg [.int .i64 k, .int .i64 v]], [] => ∀ b : Bool, Q (.bool b, [])
  | _, _ => False
def lIdxE : LW := fun vals h Q => match vals, h with
  | [.row nl [.int .i64, .int .i64] rs, .fn (.func 123) [] [], .int .i64 m, .int .i64 i], [] =>
    Hyp (m = rs.length ∧ 0 ≤ i ∧ i ≤ m ∧ rs.length ≤ 1000000) ∧ (Q (.exit 0) [] [] ∧ ∀ j : Int, 0 ≤ j → Q .ret [.int .i64 j] [])
  | _, _ => False
def sHasE : SW := fun args h Q => match args, h with
  | [.row nl [.int .i64, .int .i64] rs, .fn (.func 123) [] []], [] => Hyp (rs.length ≤ 1000000) ∧ ∀ b : Bool, Q (.bool b, [])
  | _, _ => False
def sCheckR : SW := fun args h Q => match args, h with
  | [.agg [.int .i64 n, .int .i64 pi, .int .i64 e, .int .i64 g, .int .i64 fi, .row nl [.int .i64] ps], .agg [.int .i64 k, .int .i64 r, .int .i64 sl, .int .i64 pk, .int .i64 pv, .row nl2 [.int .i64, .int .i64] ec]], [] =>
    Hyp (0 ≤ n ∧ n ≤ 1000 ∧ ps.length ≤ 1000 ∧ ec.length ≤ 1000000) ∧ ∀ e' : Int, Q (.int .i64 e', [])
  | _, _ => False
def lRep : LW := fun vals h Q => match vals, h with
  | [.sl 0 0 m, .int .i64 n], [.arr 2 29 [.int .i64, .int .i64] rows] =>
    Hyp (0 ≤ n ∧ n ≤ m ∧ (1 ≤ n ∨ m = 0) ∧ m ≤ 1000 ∧ rows.length = m ∧ rows.take n.toNat = List.replicate n.toNat (rows.getD 0 [])) ∧ ∀ rows', rows' = List.replicate m (rows.getD 0 []) → Q (.exit 0) [.sl 0 0 m] [.arr 2 29 [.int .i64, .int .i64] rows']
  | _, _ => False
def sMulR : SW := fun args h Q => match args, h with
  | [.int .u64 x, .int .u64 y], [] => Hyp (x = 1 ∧ 0 ≤ y ∧ y ≤ 1000) ∧ Q (.tup [.int .u64 0, .int .u64 y], [])
  | _, _ => False
def sRep : SW := fun args h Q => match args, h with
  | [.row nl [.int .i64, .int .i64] [[.int .i64 a, .int .i64 b]], .int .i64 n], [] => Hyp (0 ≤ n ∧ n ≤ 1000) ∧ ∀ rows, rows = List.replicate n.toNat [AV.int .i64 a, AV.int .i64 b] → Q (.row false [.int .i64, .int .i64] rows, [])
  | _, _ => False
def sTurnR : SW := fun args h Q => match args, h with
  | [.str s, .int .i64 i], [] => Hyp (s.size ≤ 1000000) ∧ ∀ z : ByteArray, z.size = s.size → Q (.str z, [])
  | _, _ => False
def X1L : Sp := ⟨U2.fn, [(106, 5, lBitsR), (116, 3, lSumR), (111, 1003, lNextR), (125, 2, lIdxE)]⟩
def X1R : Sp := ⟨(118, sMulR) :: U2.fn, [(98, 8, lRep)]⟩
def X1 : Sp := ⟨(106, sBitsR) :: (116, sSumR) :: (111, sNextR) :: (122, sHasE) :: (121, sValR) :: (120, sValR) :: (113, sEchoes) :: (98, sRep) :: (95, sTurnR) :: U2.fn, []⟩
def X2 : Sp := ⟨(110, sOpenR) :: (108, sWrapR) :: (112, sItemR) :: (114, sCheckR) :: X1.fn, []⟩
end Go.Proofs.YtiemjcchlfbglaaGreatE
/- What path mode says of functions, printed by a program of this session; the kernel holds each. -/
namespace Go.Proofs.YtiemjcchlfbglaaGreatE
open Go
set_option maxRecDepth 100000
set_option linter.unusedVariables false
theorem nfBitsR (n size : Int) (Q : AV × List AObj → Prop) : inlW Tryz.prog H0 X1L 6 (InO Tryz.prog H0 X1L 6 6) 106 [.int .i64 n, .int .i64 size] [] Q = (
br (decide (size < (1 : Int)))
 (Q ((AV.str (ByteArray.mk #[]), [])))
 (br (decide (size > (62 : Int)))
  (Q ((AV.str (ByteArray.mk #[]), [])))
  (chk ((0 : Int) ≤ size ∧ size ≤ size ∧ (1 : Int) * size ≤ (140737488355328 : Int)) (chk (size ≤ (9223372036854775807 : Int)) (((Hyp ((0 : Int) ≤ (0 : Int) ∧
  (0 : Int) ≤ size ∧
    (↑size.toNat : Int) = size ∧
      (↑size.toNat : Int) = size ∧
        (List.replicate size.toNat [AV.int IntKind.u8 (0 : Int)]).length = size.toNat ∧ size ≤ (62 : Int))) ∧
  ((∀ (rows'105 : List (List AV)),
  ((rows'105.length = size.toNat) →
  chk ((0 : Nat) + size.toNat ≤ rows'105.length) (Q ((AV.str { data := (rowsBytes (List.take size.toNat (List.drop (0 : Nat) rows'105))).toArray }, [])))))))))))) := by kernel_rfl
theorem nfBitsRa (n size len i : Int) (m : Nat) (rows : List (List AV)) (Q : Ex → List AV → List AObj → Prop) : lpBody Tryz.prog H0 U2 6 6 106 5 [.int .i64 n, .int .i64 size, .sl 0 0 m, .int .i64 len, .int .i64 i] [.arr 2 5 [.int .u8] rows] Q = (
br (decide (i < len))
 (chk (¬IntKind.i64.wrap (IntKind.i64.wrap (size - (1 : Int)) - i) < (0 : Int)) ((∀ (z102 : Int),
 ((z102 = n.fdiv ((2 : Int) ^ min (IntKind.i64.wrap (IntKind.i64.wrap (size - (1 : Int)) - i)).toNat (64 : Nat))) →
 (∀ (z104 : Int),
 ((z104 = IntKind.i64.wrap (↑(BitVec.ofInt IntKind.i64.bits z102 &&& BitVec.ofInt IntKind.i64.bits (1 : Int)).toNat : Int)) →
 chk ((0 : Int) ≤ i ∧ i < (↑m : Int)) (chk ((0 : Nat) + i.toNat < rows.length) (Q (Ex.nrm) ([AV.int IntKind.i64 n, AV.int IntKind.i64 size, AV.sl (0 : Nat) (0 : Nat) m, AV.int IntKind.i64 len,
  AV.int IntKind.i64 (IntKind.i64.wrap (i + (1 : Int)))]) ([AObj.arr (2 : Nat) (5 : Nat) [K.int IntKind.u8]
    (rows.set ((0 : Nat) + i.toNat)
      (AV.int IntKind.u8 (IntKind.u8.wrap (IntKind.i64.wrap ((48 : Int) + z104))) ::
        List.drop ((0 : Nat) + (1 : Nat)) (rows.getD ((0 : Nat) + i.toNat) [])))])))))))))
 (Q (Ex.exit (0 : Nat)) ([AV.sl (0 : Nat) (0 : Nat) m]) ([AObj.arr (2 : Nat) (5 : Nat) [K.int IntKind.u8] rows]))) := by kernel_rfl
theorem nfSumR (s : ByteArray) (Q : AV × List AObj → Prop) : inlW Tryz.prog H0 X1L 6 (InO Tryz.prog H0 X1L 6 6) 116 [.str s] [] Q = (
(∀ (z100 : Int),
Q ((AV.int IntKind.i64 z100, [])))) := by kernel_rfl
theorem nfSumRa (n : Int) (s : ByteArray) (p : Nat) (Q : Ex → List AV → List AObj → Prop) : lpBody Tryz.prog H0 U2 6 6 116 3 [.int .i64 n, .ptr 0 0] [.iter s p] Q = (
br (decide (p < s.size))
 ((∀ (z101 : Int),
 ((z101 = n.fdiv (32768 : Int)) →
 (∀ (z103 : Int),
 ((z103 = IntKind.i64.wrap (n * (2 : Int))) →
 (∀ (z105 : Int),
 ((z105 =
  IntKind.i64.wrap (↑(BitVec.ofInt IntKind.i64.bits z103 &&& BitVec.ofInt IntKind.i64.bits (65535 : Int)).toNat : Int)) →
 (∀ (z107 : Int),
 ((z107 =
  IntKind.i64.wrap
    (↑(BitVec.ofInt IntKind.i64.bits
              (IntKind.i64.wrap (IntKind.i32.wrap ((↑(Utf8.decode s p).1 : Int) - (48 : Int)))) &&&
            BitVec.ofInt IntKind.i64.bits (1 : Int)).toNat :
      Int)) →
 br (z101 != z107)
  ((∀ (z110 : Int),
  ((z110 =
  IntKind.i64.wrap (↑(BitVec.ofInt IntKind.i64.bits z105 ^^^ BitVec.ofInt IntKind.i64.bits (4129 : Int)).toNat : Int)) →
  Q (Ex.nrm) ([AV.int IntKind.i64 z110, AV.ptr (0 : Nat) (0 : Nat)]) ([AObj.iter s (p + (Utf8.decode s p).2)]))))
  (Q (Ex.nrm) ([AV.int IntKind.i64 z105, AV.ptr (0 : Nat) (0 : Nat)]) ([AObj.iter s (p + (Utf8.decode s p).2)])))))))))))
 (Q (Ex.exit (0 : Nat)) ([AV.int IntKind.i64 n]) ([]))) := by kernel_rfl
theorem nfNextR (size : Int) (s : ByteArray) (Q : AV × List AObj → Prop) : inlW Tryz.prog H0 X1L 6 (InO Tryz.prog H0 X1L 6 6) 111 [.ptr 0 0, .int .i64 size] [.box [.str s]] Q = (
chk ((0 : Int) ≤ size ∧ size ≤ (↑s.size : Int)) ((∀ (z101 : Int),
chk ((0 : Int) ≤ size ∧ size ≤ (↑s.size : Int)) (Q ((AV.int IntKind.i64 z101, [AObj.box [AV.str (s.extract size.toNat s.size)]])))))) := by kernel_rfl
theorem nfNextRa (size n : Int) (s t : ByteArray) (p : Nat) (Q : Ex → List AV → List AObj → Prop) : lpBody Tryz.prog H0 U2 6 6 111 1003 [.ptr 0 0, .int .i64 size, .int .i64 n, .ptr 1 0] [.box [.str s], .iter t p] Q = (
br (decide (p < t.size))
 ((∀ (z101 : Int),
 ((z101 = IntKind.i64.wrap (n * (2 : Int))) →
 (∀ (z103 : Int),
 ((z103 =
  IntKind.i64.wrap
    (↑(BitVec.ofInt IntKind.i64.bits z101 |||
            BitVec.ofInt IntKind.i64.bits
              (IntKind.i64.wrap (IntKind.i32.wrap ((↑(Utf8.decode t p).1 : Int) - (48 : Int))))).toNat :
      Int)) →
 Q (Ex.nrm) ([AV.ptr (0 : Nat) (0 : Nat), AV.int IntKind.i64 size, AV.int IntKind.i64 z103, AV.ptr (1 : Nat) (0 : Nat)]) ([AObj.box [AV.str s], AObj.iter t (p + (Utf8.decode t p).2)]))))))
 (Q (Ex.exit (0 : Nat)) ([AV.ptr (0 : Nat) (0 : Nat), AV.int IntKind.i64 size, AV.int IntKind.i64 n]) ([AObj.box [AV.str s]]))) := by kernel_rfl
theorem nfEchoes (n pi e g fi : Int) (nl : Bool) (ps : List (List AV)) (k sl : Int) (Q : AV × List AObj → Prop) : inlW Tryz.prog H0 U2 6 (InO Tryz.prog H0 U2 6 6) 113 [cf n pi e g fi nl ps, .int .i64 k, .int .i64 sl] [] Q = (
br (k == (3 : Int))
 (br (decide (sl < n))
  (Q ((AV.int IntKind.i64 (IntKind.i64.wrap (n + (↑ps.length : Int))), [])))
  (Q ((AV.int IntKind.i64 (0 : Int), []))))
 (Q ((AV.int IntKind.i64 (0 : Int), [])))) := by kernel_rfl
theorem nfValue (k v : Int) (Q : AV × List AObj → Prop) : inlW Tryz.prog H0 U2 6 (InO Tryz.prog H0 U2 6 6) 121 [.agg [.int .i64 k, .int .i64 v]] [] Q = (
br (k == (1 : Int))
 (br (v == (0 : Int))
  (Q ((AV.bool true, [])))
  (br (k == (2 : Int))
   (br (decide (v ≥ (0 : Int)))
    (Q ((AV.bool (decide (v ≤ (255 : Int))), [])))
    (Q ((AV.bool false, []))))
   (Q ((AV.bool false, [])))))
 (br (k == (2 : Int))
  (br (decide (v ≥ (0 : Int)))
   (Q ((AV.bool (decide (v ≤ (255 : Int))), [])))
   (Q ((AV.bool false, []))))
  (Q ((AV.bool false, []))))) := by kernel_rfl
theorem nfEmpty (k v : Int) (Q : AV × List AObj → Prop) : inlW Tryz.prog H0 U2 6 (InO Tryz.prog H0 U2 6 6) 120 [.agg [.int .i64 k, .int .i64 v]] [] Q = (
Q ((AV.bool (k == (0 : Int) && (v == (0 : Int) && true)), []))) := by kernel_rfl
theorem nfIdxE (m i : Int) (nl : Bool) (rs : List (List AV)) (Q : Ex → List AV → List AObj → Prop) : lpBody Tryz.prog H0 U2 6 6 125 2 [.row nl [.int .i64, .int .i64] rs, .fn (.func 123) [] [], .int .i64 m, .int .i64 i] [] Q = (
br (decide (i < m))
 (chk ((0 : Int) ≤ i ∧ i < (↑rs.length : Int)) (br (!(((rs.getD i.toNat []).getD (0 : Nat) AV.gone).toI == (0 : Int) &&
    (((rs.getD i.toNat []).getD (1 : Nat) AV.gone).toI == (0 : Int) && true)))
  (br (((rs.getD i.toNat []).getD (0 : Nat) AV.gone).toI == (1 : Int))
   (br (((rs.getD i.toNat []).getD (1 : Nat) AV.gone).toI == (0 : Int))
    (Q (Ex.nrm) ([AV.row nl [K.int IntKind.i64, K.int IntKind.i64] rs, AV.fn (Fn.func (123 : Nat)) [] [], AV.int IntKind.i64 m,
  AV.int IntKind.i64 (IntKind.i64.wrap (i + (1 : Int)))]) ([]))
    (br (((rs.getD i.toNat []).getD (0 : Nat) AV.gone).toI == (2 : Int))
     (br (decide (((rs.getD i.toNat []).getD (1 : Nat) AV.gone).toI ≥ (0 : Int)))
      (br (!decide (((rs.getD i.toNat []).getD (1 : Nat) AV.gone).toI ≤ (255 : Int)))
       (Q (Ex.ret) ([AV.int IntKind.i64 i]) ([]))
       (Q (Ex.nrm) ([AV.row nl [K.int IntKind.i64, K.int IntKind.i64] rs, AV.fn (Fn.func (123 : Nat)) [] [], AV.int IntKind.i64 m,
  AV.int IntKind.i64 (IntKind.i64.wrap (i + (1 : Int)))]) ([])))
      (Q (Ex.ret) ([AV.int IntKind.i64 i]) ([])))
     (Q (Ex.ret) ([AV.int IntKind.i64 i]) ([]))))
   (br (((rs.getD i.toNat []).getD (0 : Nat) AV.gone).toI == (2 : Int))
    (br (decide (((rs.getD i.toNat []).getD (1 : Nat) AV.gone).toI ≥ (0 : Int)))
     (br (!decide (((rs.getD i.toNat []).getD (1 : Nat) AV.gone).toI ≤ (255 : Int)))
      (Q (Ex.ret) ([AV.int IntKind.i64 i]) ([]))
      (Q (Ex.nrm) ([AV.row nl [K.int IntKind.i64, K.int IntKind.i64] rs, AV.fn (Fn.func (123 : Nat)) [] [], AV.int IntKind.i64 m,
  AV.int IntKind.i64 (IntKind.i64.wrap (i + (1 : Int)))]) ([])))
     (Q (Ex.ret) ([AV.int IntKind.i64 i]) ([])))
    (Q (Ex.ret) ([AV.int IntKind.i64 i]) ([]))))
  (Q (Ex.nrm) ([AV.row nl [K.int IntKind.i64, K.int IntKind.i64] rs, AV.fn (Fn.func (123 : Nat)) [] [], AV.int IntKind.i64 m,
  AV.int IntKind.i64 (IntKind.i64.wrap (i + (1 : Int)))]) ([]))))
 (Q (Ex.exit (0 : Nat)) ([]) ([]))) := by kernel_rfl
theorem nfHasE (nl : Bool) (rs : List (List AV)) (Q : AV × List AObj → Prop) : inlW Tryz.prog H0 X1L 6 (InO Tryz.prog H0 X1L 6 6) 122 [.row nl [.int .i64, .int .i64] rs, .fn (.func 123) [] []] [] Q = (
((Hyp ((↑rs.length : Int) = (↑rs.length : Int) ∧
  (0 : Int) ≤ (0 : Int) ∧ (0 : Int) ≤ (↑rs.length : Int) ∧ rs.length ≤ (1000000 : Nat))) ∧
(((Q ((AV.bool false, []))) ∧
((∀ (j102 : Int),
(((0 : Int) ≤ j102) →
Q ((AV.bool (decide (j102 ≥ (0 : Int))), []))))))))) := by kernel_rfl
theorem nfMulR (x y : Int) (Q : AV × List AObj → Prop) : inlW Tryz.prog H0 U2 6 (InO Tryz.prog H0 U2 6 6) 118 [.int .u64 x, .int .u64 y] [] Q = (
(∀ (z100 : Int),
((z100 =
  IntKind.u64.wrap (↑(BitVec.ofInt IntKind.u64.bits x &&& BitVec.ofInt IntKind.u64.bits (4294967295 : Int)).toNat : Int)) →
(∀ (z102 : Int),
((z102 = x.fdiv (4294967296 : Int)) →
(∀ (z104 : Int),
((z104 =
  IntKind.u64.wrap (↑(BitVec.ofInt IntKind.u64.bits y &&& BitVec.ofInt IntKind.u64.bits (4294967295 : Int)).toNat : Int)) →
(∀ (z106 : Int),
((z106 = y.fdiv (4294967296 : Int)) →
(∀ (z108 : Int),
((z108 = (IntKind.u64.wrap (z100 * z104)).fdiv (4294967296 : Int)) →
(∀ (z110 : Int),
((z110 =
  IntKind.u64.wrap
    (↑(BitVec.ofInt IntKind.u64.bits (IntKind.u64.wrap (IntKind.u64.wrap (z102 * z104) + z108)) &&&
            BitVec.ofInt IntKind.u64.bits (4294967295 : Int)).toNat :
      Int)) →
(∀ (z112 : Int),
((z112 = (IntKind.u64.wrap (IntKind.u64.wrap (z102 * z104) + z108)).fdiv (4294967296 : Int)) →
(∀ (z114 : Int),
((z114 = (IntKind.u64.wrap (z110 + IntKind.u64.wrap (z100 * z106))).fdiv (4294967296 : Int)) →
Q ((AV.tup
    [AV.int IntKind.u64 (IntKind.u64.wrap (IntKind.u64.wrap (IntKind.u64.wrap (z102 * z106) + z112) + z114)),
      AV.int IntKind.u64 (IntKind.u64.wrap (x * y))],
  []))))))))))))))))))) := by kernel_rfl
theorem nfRepa (n : Int) (m : Nat) (rows : List (List AV)) (Q : Ex → List AV → List AObj → Prop) : lpBody Tryz.prog H0 (⟨(118, sMulR) :: U2.fn, []⟩ : Sp) 6 6 98 8 [.sl 0 0 m, .int .i64 n] [.arr 2 29 [.int .i64, .int .i64] rows] Q = (
br (decide (n < (↑m : Int)))
 (chk ((0 : Int) ≤ n ∧ n ≤ (↑m : Int)) (chk (n.toNat < m ∨ n.toNat = (0 : Nat)) (chk ((0 : Int) ≤ n ∧ n ≤ (↑m : Int)) (chk ((0 : Nat) < n.toNat ∨ (0 : Nat) = (0 : Nat)) (chk ((0 : Nat) + n.toNat + (m - n.toNat) ≤ rows.length) (br ((n.toNat - (0 : Nat)).ble (m - n.toNat))
  (chk ((0 : Nat) + (n.toNat - (0 : Nat)) ≤ rows.length) (chk ((List.take (n.toNat - (0 : Nat)) (List.drop (0 : Nat) rows)).length = n.toNat - (0 : Nat)) (Q (Ex.nrm) ([AV.sl (0 : Nat) (0 : Nat) m, AV.int IntKind.i64 (IntKind.i64.wrap (n + (↑(n.toNat - (0 : Nat)) : Int)))]) ([AObj.arr (2 : Nat) (29 : Nat) [K.int IntKind.i64, K.int IntKind.i64]
    (List.take ((0 : Nat) + n.toNat) rows ++
      (List.take (n.toNat - (0 : Nat)) (List.drop (0 : Nat) rows) ++
        List.drop ((0 : Nat) + n.toNat + (List.take (n.toNat - (0 : Nat)) (List.drop (0 : Nat) rows)).length) rows))]))))
  (chk ((0 : Nat) + (m - n.toNat) ≤ rows.length) (chk ((List.take (m - n.toNat) (List.drop (0 : Nat) rows)).length = m - n.toNat) (Q (Ex.nrm) ([AV.sl (0 : Nat) (0 : Nat) m, AV.int IntKind.i64 (IntKind.i64.wrap (n + (↑(m - n.toNat) : Int)))]) ([AObj.arr (2 : Nat) (29 : Nat) [K.int IntKind.i64, K.int IntKind.i64]
    (List.take ((0 : Nat) + n.toNat) rows ++
      (List.take (m - n.toNat) (List.drop (0 : Nat) rows) ++
        List.drop ((0 : Nat) + n.toNat + (List.take (m - n.toNat) (List.drop (0 : Nat) rows)).length) rows))]))))))))))
 (Q (Ex.exit (0 : Nat)) ([AV.sl (0 : Nat) (0 : Nat) m]) ([AObj.arr (2 : Nat) (29 : Nat) [K.int IntKind.i64, K.int IntKind.i64] rows]))) := by kernel_rfl
theorem nfRep (nl : Bool) (a b n : Int) (Q : AV × List AObj → Prop) : inlW Tryz.prog H0 X1R 6 (InO Tryz.prog H0 X1R 6 6) 98 [.row nl [.int .i64, .int .i64] [[.int .i64 a, .int .i64 b]], .int .i64 n] [] Q = (
br (decide (n < (0 : Int)))
 (False)
 (((Hyp (IntKind.u64.wrap (↑(1 : Nat) : Int) = (1 : Int) ∧ (0 : Int) ≤ IntKind.u64.wrap n ∧ IntKind.u64.wrap n ≤ (1000 : Int))) ∧
 (br (decide (IntKind.u64.wrap n > (9223372036854775807 : Int)))
  (False)
  (chk ((0 : Int) ≤ IntKind.i64.wrap (IntKind.u64.wrap n) ∧
  IntKind.i64.wrap (IntKind.u64.wrap n) ≤ IntKind.i64.wrap (IntKind.u64.wrap n) ∧
    (16 : Int) * IntKind.i64.wrap (IntKind.u64.wrap n) ≤ (140737488355328 : Int)) (chk (IntKind.i64.wrap (IntKind.u64.wrap n) ≤ (9223372036854775807 : Int)) (chk ((0 : Nat) + (IntKind.i64.wrap (IntKind.u64.wrap n)).toNat ≤
  (List.replicate (IntKind.i64.wrap (IntKind.u64.wrap n)).toNat
      [AV.int IntKind.i64 (0 : Int), AV.int IntKind.i64 (0 : Int)]).length) (br (Nat.ble (1 : Nat) (IntKind.i64.wrap (IntKind.u64.wrap n)).toNat)
   (((Hyp ((0 : Int) ≤ (↑(1 : Nat) : Int) ∧
  (↑(1 : Nat) : Int) ≤ (↑(IntKind.i64.wrap (IntKind.u64.wrap n)).toNat : Int) ∧
    ((1 : Int) ≤ (↑(1 : Nat) : Int) ∨ (IntKind.i64.wrap (IntKind.u64.wrap n)).toNat = (0 : Nat)) ∧
      (IntKind.i64.wrap (IntKind.u64.wrap n)).toNat ≤ (1000 : Nat) ∧
        ([AV.int IntKind.i64 a, AV.int IntKind.i64 b] ::
                List.drop ((0 : Nat) + (1 : Nat))
                  (List.replicate (IntKind.i64.wrap (IntKind.u64.wrap n)).toNat
                    [AV.int IntKind.i64 (0 : Int), AV.int IntKind.i64 (0 : Int)])).length =
            (IntKind.i64.wrap (IntKind.u64.wrap n)).toNat ∧
          [[AV.int IntKind.i64 a, AV.int IntKind.i64 b]] = [[AV.int IntKind.i64 a, AV.int IntKind.i64 b]])) ∧
   ((∀ (rows'108 : List (List AV)),
   ((rows'108 = List.replicate (IntKind.i64.wrap (IntKind.u64.wrap n)).toNat [AV.int IntKind.i64 a, AV.int IntKind.i64 b]) →
   chk ((0 : Nat) + (IntKind.i64.wrap (IntKind.u64.wrap n)).toNat ≤ rows'108.length) (Q ((AV.row false [K.int IntKind.i64, K.int IntKind.i64]
    (List.take (IntKind.i64.wrap (IntKind.u64.wrap n)).toNat (List.drop (0 : Nat) rows'108)),
  []))))))))
   (chk ((List.take (IntKind.i64.wrap (IntKind.u64.wrap n)).toNat [[AV.int IntKind.i64 a, AV.int IntKind.i64 b]]).length =
  (IntKind.i64.wrap (IntKind.u64.wrap n)).toNat) (((Hyp ((0 : Int) ≤ (↑(IntKind.i64.wrap (IntKind.u64.wrap n)).toNat : Int) ∧
  (↑(IntKind.i64.wrap (IntKind.u64.wrap n)).toNat : Int) ≤ (↑(IntKind.i64.wrap (IntKind.u64.wrap n)).toNat : Int) ∧
    ((1 : Int) ≤ (↑(IntKind.i64.wrap (IntKind.u64.wrap n)).toNat : Int) ∨
        (IntKind.i64.wrap (IntKind.u64.wrap n)).toNat = (0 : Nat)) ∧
      (IntKind.i64.wrap (IntKind.u64.wrap n)).toNat ≤ (1000 : Nat) ∧
        ([] ++
                (List.take (IntKind.i64.wrap (IntKind.u64.wrap n)).toNat
                    [[AV.int IntKind.i64 a, AV.int IntKind.i64 b]] ++
                  List.drop
                    ((0 : Nat) +
                      (List.take (IntKind.i64.wrap (IntKind.u64.wrap n)).toNat
                          [[AV.int IntKind.i64 a, AV.int IntKind.i64 b]]).length)
                    (List.replicate (IntKind.i64.wrap (IntKind.u64.wrap n)).toNat
                      [AV.int IntKind.i64 (0 : Int), AV.int IntKind.i64 (0 : Int)]))).length =
            (IntKind.i64.wrap (IntKind.u64.wrap n)).toNat ∧
          List.take (↑(IntKind.i64.wrap (IntKind.u64.wrap n)).toNat : Int).toNat
              ([] ++
                (List.take (IntKind.i64.wrap (IntKind.u64.wrap n)).toNat
                    [[AV.int IntKind.i64 a, AV.int IntKind.i64 b]] ++
                  List.drop
                    ((0 : Nat) +
                      (List.take (IntKind.i64.wrap (IntKind.u64.wrap n)).toNat
                          [[AV.int IntKind.i64 a, AV.int IntKind.i64 b]]).length)
                    (List.replicate (IntKind.i64.wrap (IntKind.u64.wrap n)).toNat
                      [AV.int IntKind.i64 (0 : Int), AV.int IntKind.i64 (0 : Int)]))) =
            List.replicate (↑(IntKind.i64.wrap (IntKind.u64.wrap n)).toNat : Int).toNat
              (([] ++
                    (List.take (IntKind.i64.wrap (IntKind.u64.wrap n)).toNat
                        [[AV.int IntKind.i64 a, AV.int IntKind.i64 b]] ++
                      List.drop
                        ((0 : Nat) +
                          (List.take (IntKind.i64.wrap (IntKind.u64.wrap n)).toNat
                              [[AV.int IntKind.i64 a, AV.int IntKind.i64 b]]).length)
                        (List.replicate (IntKind.i64.wrap (IntKind.u64.wrap n)).toNat
                          [AV.int IntKind.i64 (0 : Int), AV.int IntKind.i64 (0 : Int)]))).getD
                (0 : Nat) []))) ∧
   ((∀ (rows'109 : List (List AV)),
   ((rows'109 =
  List.replicate (IntKind.i64.wrap (IntKind.u64.wrap n)).toNat
    (([] ++
          (List.take (IntKind.i64.wrap (IntKind.u64.wrap n)).toNat [[AV.int IntKind.i64 a, AV.int IntKind.i64 b]] ++
            List.drop
              ((0 : Nat) +
                (List.take (IntKind.i64.wrap (IntKind.u64.wrap n)).toNat
                    [[AV.int IntKind.i64 a, AV.int IntKind.i64 b]]).length)
              (List.replicate (IntKind.i64.wrap (IntKind.u64.wrap n)).toNat
                [AV.int IntKind.i64 (0 : Int), AV.int IntKind.i64 (0 : Int)]))).getD
      (0 : Nat) [])) →
   chk ((0 : Nat) + (IntKind.i64.wrap (IntKind.u64.wrap n)).toNat ≤ rows'109.length) (Q ((AV.row false [K.int IntKind.i64, K.int IntKind.i64]
    (List.take (IntKind.i64.wrap (IntKind.u64.wrap n)).toNat (List.drop (0 : Nat) rows'109)),
  []))))))))))))))))) := by kernel_rfl
theorem nfTurnR (s : ByteArray) (i : Int) (Q : AV × List AObj → Prop) : inlW Tryz.prog H0 U2 6 (InO Tryz.prog H0 U2 6 6) 95 [.str s, .int .i64 i] [] Q = (
br (decide (i < (0 : Int)))
 (Q ((AV.str s, [])))
 (br (decide (i ≥ (↑s.size : Int)))
  (Q ((AV.str s, [])))
  (chk (s.size ≤ (140737488355328 : Nat)) (chk ((0 : Int) ≤ i ∧ i < (↑s.size : Int)) (chk ((0 : Nat) + i.toNat < (bytesRows s.data.toList).length) (br ((((bytesRows s.data.toList).getD ((0 : Nat) + i.toNat) []).getD (0 : Nat) AV.gone).toI == (49 : Int))
   (br ((((bytesRows s.data.toList).getD ((0 : Nat) + i.toNat) []).getD (0 : Nat) AV.gone).toI == (49 : Int))
    (chk ((0 : Int) ≤ i ∧ i < (↑s.size : Int)) (chk ((0 : Nat) + i.toNat < (bytesRows s.data.toList).length) (chk ((0 : Nat) + s.size ≤
  ((bytesRows s.data.toList).set ((0 : Nat) + i.toNat)
      (AV.int IntKind.u8 (48 : Int) ::
        List.drop ((0 : Nat) + (1 : Nat)) ((bytesRows s.data.toList).getD ((0 : Nat) + i.toNat) []))).length) (Q ((AV.str
    {
      data :=
        (rowsBytes
            (List.take s.size
              (List.drop (0 : Nat)
                ((bytesRows s.data.toList).set ((0 : Nat) + i.toNat)
                  (AV.int IntKind.u8 (48 : Int) ::
                    List.drop ((0 : Nat) + (1 : Nat))
                      ((bytesRows s.data.toList).getD ((0 : Nat) + i.toNat) [])))))).toArray },
  []))))))
    (br ((((bytesRows s.data.toList).getD ((0 : Nat) + i.toNat) []).getD (0 : Nat) AV.gone).toI == (48 : Int))
     (chk ((0 : Int) ≤ i ∧ i < (↑s.size : Int)) (chk ((0 : Nat) + i.toNat < (bytesRows s.data.toList).length) (chk ((0 : Nat) + s.size ≤
  ((bytesRows s.data.toList).set ((0 : Nat) + i.toNat)
      (AV.int IntKind.u8 (49 : Int) ::
        List.drop ((0 : Nat) + (1 : Nat)) ((bytesRows s.data.toList).getD ((0 : Nat) + i.toNat) []))).length) (Q ((AV.str
    {
      data :=
        (rowsBytes
            (List.take s.size
              (List.drop (0 : Nat)
                ((bytesRows s.data.toList).set ((0 : Nat) + i.toNat)
                  (AV.int IntKind.u8 (49 : Int) ::
                    List.drop ((0 : Nat) + (1 : Nat))
                      ((bytesRows s.data.toList).getD ((0 : Nat) + i.toNat) [])))))).toArray },
  []))))))
     (chk ((0 : Int) ≤ i ∧ i < (↑s.size : Int)) (chk ((0 : Nat) + i.toNat < (bytesRows s.data.toList).length) (chk ((0 : Nat) + s.size ≤
  ((bytesRows s.data.toList).set ((0 : Nat) + i.toNat)
      (AV.int IntKind.u8 (((bytesRows s.data.toList).getD ((0 : Nat) + i.toNat) []).getD (0 : Nat) AV.gone).toI ::
        List.drop ((0 : Nat) + (1 : Nat)) ((bytesRows s.data.toList).getD ((0 : Nat) + i.toNat) []))).length) (Q ((AV.str
    {
      data :=
        (rowsBytes
            (List.take s.size
              (List.drop (0 : Nat)
                ((bytesRows s.data.toList).set ((0 : Nat) + i.toNat)
                  (AV.int IntKind.u8
                      (((bytesRows s.data.toList).getD ((0 : Nat) + i.toNat) []).getD (0 : Nat) AV.gone).toI ::
                    List.drop ((0 : Nat) + (1 : Nat))
                      ((bytesRows s.data.toList).getD ((0 : Nat) + i.toNat) [])))))).toArray },
  []))))))))
   (br ((((bytesRows s.data.toList).getD ((0 : Nat) + i.toNat) []).getD (0 : Nat) AV.gone).toI == (35 : Int))
    (chk ((0 : Int) ≤ i ∧ i < (↑s.size : Int)) (chk ((0 : Nat) + i.toNat < (bytesRows s.data.toList).length) (chk ((0 : Nat) + s.size ≤
  ((bytesRows s.data.toList).set ((0 : Nat) + i.toNat)
      (AV.int IntKind.u8 (48 : Int) ::
        List.drop ((0 : Nat) + (1 : Nat)) ((bytesRows s.data.toList).getD ((0 : Nat) + i.toNat) []))).length) (Q ((AV.str
    {
      data :=
        (rowsBytes
            (List.take s.size
              (List.drop (0 : Nat)
                ((bytesRows s.data.toList).set ((0 : Nat) + i.toNat)
                  (AV.int IntKind.u8 (48 : Int) ::
                    List.drop ((0 : Nat) + (1 : Nat))
                      ((bytesRows s.data.toList).getD ((0 : Nat) + i.toNat) [])))))).toArray },
  []))))))
    (br ((((bytesRows s.data.toList).getD ((0 : Nat) + i.toNat) []).getD (0 : Nat) AV.gone).toI == (48 : Int))
     (chk ((0 : Int) ≤ i ∧ i < (↑s.size : Int)) (chk ((0 : Nat) + i.toNat < (bytesRows s.data.toList).length) (chk ((0 : Nat) + s.size ≤
  ((bytesRows s.data.toList).set ((0 : Nat) + i.toNat)
      (AV.int IntKind.u8 (49 : Int) ::
        List.drop ((0 : Nat) + (1 : Nat)) ((bytesRows s.data.toList).getD ((0 : Nat) + i.toNat) []))).length) (Q ((AV.str
    {
      data :=
        (rowsBytes
            (List.take s.size
              (List.drop (0 : Nat)
                ((bytesRows s.data.toList).set ((0 : Nat) + i.toNat)
                  (AV.int IntKind.u8 (49 : Int) ::
                    List.drop ((0 : Nat) + (1 : Nat))
                      ((bytesRows s.data.toList).getD ((0 : Nat) + i.toNat) [])))))).toArray },
  []))))))
     (chk ((0 : Int) ≤ i ∧ i < (↑s.size : Int)) (chk ((0 : Nat) + i.toNat < (bytesRows s.data.toList).length) (chk ((0 : Nat) + s.size ≤
  ((bytesRows s.data.toList).set ((0 : Nat) + i.toNat)
      (AV.int IntKind.u8 (((bytesRows s.data.toList).getD ((0 : Nat) + i.toNat) []).getD (0 : Nat) AV.gone).toI ::
        List.drop ((0 : Nat) + (1 : Nat)) ((bytesRows s.data.toList).getD ((0 : Nat) + i.toNat) []))).length) (Q ((AV.str
    {
      data :=
        (rowsBytes
            (List.take s.size
              (List.drop (0 : Nat)
                ((bytesRows s.data.toList).set ((0 : Nat) + i.toNat)
                  (AV.int IntKind.u8
                      (((bytesRows s.data.toList).getD ((0 : Nat) + i.toNat) []).getD (0 : Nat) AV.gone).toI ::
                    List.drop ((0 : Nat) + (1 : Nat))
                      ((bytesRows s.data.toList).getD ((0 : Nat) + i.toNat) [])))))).toArray },
  [])))))))))))))) := by kernel_rfl
theorem nfOpenR (s : ByteArray) (Q : AV × List AObj → Prop) : inlW Tryz.prog H0 X1 6 (InO Tryz.prog H0 X1 6 6) 110 [.str s] [] Q = (
br (decide ((↑s.size : Int) ≥ (1 : Int)))
 (chk ((0 : Int) ≤ IntKind.i64.wrap ((↑s.size : Int) - (1 : Int)) ∧
  IntKind.i64.wrap ((↑s.size : Int) - (1 : Int)) ≤ (↑s.size : Int)) (br ((s.extract (IntKind.i64.wrap ((↑s.size : Int) - (1 : Int))).toNat s.size).toList == (ByteArray.mk #[(35 : UInt8)]).toList)
  (((Hyp ((↑s.size : Int) ≤ (4611686018427387904 : Int))) ∧
  (br (!(s_clean s).toList == s.toList)
   (Q ((AV.tup [AV.str (ByteArray.mk #[]), AV.int IntKind.i64 (4 : Int)], [])))
   (br (decide (IntKind.i64.wrap (IntKind.i64.wrap ((↑s.size : Int) - (1 : Int)) - (16 : Int)) < (0 : Int)))
    (Q ((AV.tup [AV.str (ByteArray.mk #[]), AV.int IntKind.i64 (3 : Int)], [])))
    (chk ((0 : Int) ≤ IntKind.i64.wrap (IntKind.i64.wrap ((↑s.size : Int) - (1 : Int)) - (16 : Int)) ∧
  IntKind.i64.wrap (IntKind.i64.wrap ((↑s.size : Int) - (1 : Int)) - (16 : Int)) ≤ (↑s.size : Int)) (chk ((0 : Int) ≤ IntKind.i64.wrap ((↑s.size : Int) - (1 : Int)) ∧
  IntKind.i64.wrap ((↑s.size : Int) - (1 : Int)) ≤ (↑s.size : Int)) (chk ((0 : Int) ≤ IntKind.i64.wrap (IntKind.i64.wrap ((↑s.size : Int) - (1 : Int)) - (16 : Int)) ∧
  IntKind.i64.wrap (IntKind.i64.wrap ((↑s.size : Int) - (1 : Int)) - (16 : Int)) ≤
    (↑(IntKind.i64.wrap ((↑s.size : Int) - (1 : Int))).toNat : Int)) ((∀ (z109 : Int),
    ((Hyp ((1 : Int) ≤ (16 : Int) ∧ (16 : Int) ≤ (62 : Int))) ∧
    ((∀ (z111 : ByteArray),
    (((↑z111.size : Int) = (16 : Int)) →
    br (!z111.toList ==
    (s.extract (IntKind.i64.wrap (IntKind.i64.wrap ((↑s.size : Int) - (1 : Int)) - (16 : Int))).toNat
        (IntKind.i64.wrap ((↑s.size : Int) - (1 : Int))).toNat).toList)
     (Q ((AV.tup [AV.str (ByteArray.mk #[]), AV.int IntKind.i64 (5 : Int)], [])))
     (chk ((0 : Int) ≤ IntKind.i64.wrap (IntKind.i64.wrap ((↑s.size : Int) - (1 : Int)) - (16 : Int)) ∧
  IntKind.i64.wrap (IntKind.i64.wrap ((↑s.size : Int) - (1 : Int)) - (16 : Int)) ≤ (↑s.size : Int)) (Q ((AV.tup
    [AV.str
        (s.extract (0 : Nat) (IntKind.i64.wrap (IntKind.i64.wrap ((↑s.size : Int) - (1 : Int)) - (16 : Int))).toNat),
      AV.int IntKind.i64 (0 : Int)],
  [])))))))))))))))))
  (Q ((AV.tup [AV.str (ByteArray.mk #[]), AV.int IntKind.i64 (4 : Int)], [])))))
 (Q ((AV.tup [AV.str (ByteArray.mk #[]), AV.int IntKind.i64 (4 : Int)], [])))) := by kernel_rfl
theorem nfWrapR (s : ByteArray) (Q : AV × List AObj → Prop) : inlW Tryz.prog H0 X1 6 (InO Tryz.prog H0 X1 6 6) 108 [.str s] [] Q = (
(∀ (z100 : Int),
((Hyp ((1 : Int) ≤ (16 : Int) ∧ (16 : Int) ≤ (62 : Int))) ∧
((∀ (z102 : ByteArray),
(((↑z102.size : Int) = (16 : Int)) →
chk ((s.size + z102.size).ble (9223372036854775807 : Nat) = true) (chk (((s ++ z102).size + (1 : Nat)).ble (9223372036854775807 : Nat) = true) (Q ((AV.str (s ++ z102 ++ (ByteArray.mk #[(35 : UInt8)])), [])))))))))) := by kernel_rfl
theorem nfItemR (s : ByteArray) (Q : AV × List AObj → Prop) : inlW Tryz.prog H0 X1 6 (InO Tryz.prog H0 X1 6 6) 112 [.ptr 0 0] [.box [.str s]] Q = (
((Hyp ((0 : Int) ≤ (2 : Int) ∧ (2 : Int) ≤ (↑s.size : Int))) ∧
((∀ (z101 : Int),
(∀ (t102 : ByteArray),
(((↑t102.size : Int) + (2 : Int) = (↑s.size : Int)) →
((Hyp ((0 : Int) ≤ (8 : Int) ∧ (8 : Int) ≤ (↑t102.size : Int))) ∧
((∀ (z105 : Int),
(∀ (t106 : ByteArray),
(((↑t106.size : Int) + (8 : Int) = (↑t102.size : Int)) →
Q ((AV.agg [AV.int IntKind.i64 z101, AV.int IntKind.i64 z105], [AObj.box [AV.str t106]]))))))))))))) := by kernel_rfl
theorem nfCheckR (n pi e g fi : Int) (nl : Bool) (ps : List (List AV)) (k r sl pk pv : Int) (nl2 : Bool) (ec : List (List AV)) (Q : AV × List AObj → Prop) : inlW Tryz.prog H0 X1 6 (InO Tryz.prog H0 X1 6 6) 114 [cf n pi e g fi nl ps, .agg [.int .i64 k, .int .i64 r, .int .i64 sl, .int .i64 pk, .int .i64 pv, .row nl2 [.int .i64, .int .i64] ec]] [] Q = (
br (k == (3 : Int))
 (br (decide (sl < (0 : Int)))
  (Q ((AV.int IntKind.i64 (1 : Int), [])))
  (br (decide (sl ≥ IntKind.i64.wrap (n + (↑ps.length : Int))))
   (Q ((AV.int IntKind.i64 (1 : Int), [])))
   (br (decide (r < (0 : Int)))
    (Q ((AV.int IntKind.i64 (1 : Int), [])))
    (br (decide (r > (65535 : Int)))
     (Q ((AV.int IntKind.i64 (1 : Int), [])))
     (br (decide (k < (1 : Int)))
      (Q ((AV.int IntKind.i64 (6 : Int), [])))
      (br (decide (k > (3 : Int)))
       (Q ((AV.int IntKind.i64 (6 : Int), [])))
       (br (decide (sl ≥ n))
        (br (k != (3 : Int))
         (Q ((AV.int IntKind.i64 (6 : Int), [])))
         ((∀ (b109 : Bool),
         br (!b109)
          (Q ((AV.int IntKind.i64 (1 : Int), [])))
          (((Hyp ((0 : Int) ≤ n ∧ n ≤ (1000 : Int) ∧ ps.length ≤ (1000 : Nat))) ∧
          (((br ((↑ec.length : Int) != (0 : Int))
           (Q ((AV.int IntKind.i64 (2 : Int), [])))
           (((Hyp (ec.length ≤ (1000000 : Nat))) ∧
           ((∀ (b115 : Bool),
           br (b115)
            (Q ((AV.int IntKind.i64 (1 : Int), [])))
            (Q ((AV.int IntKind.i64 (0 : Int), [])))))))) ∧
          ((∀ (m113 : Int),
          ((m113 = n + (↑ps.length : Int)) →
          br ((↑ec.length : Int) != m113)
           (Q ((AV.int IntKind.i64 (2 : Int), [])))
           (((Hyp (ec.length ≤ (1000000 : Nat))) ∧
           ((∀ (b117 : Bool),
           br (b117)
            (Q ((AV.int IntKind.i64 (1 : Int), [])))
            (Q ((AV.int IntKind.i64 (0 : Int), [])))))))))))))))))
        ((∀ (b108 : Bool),
        br (!b108)
         (Q ((AV.int IntKind.i64 (1 : Int), [])))
         (((Hyp ((0 : Int) ≤ n ∧ n ≤ (1000 : Int) ∧ ps.length ≤ (1000 : Nat))) ∧
         (((br ((↑ec.length : Int) != (0 : Int))
          (Q ((AV.int IntKind.i64 (2 : Int), [])))
          (((Hyp (ec.length ≤ (1000000 : Nat))) ∧
          ((∀ (b114 : Bool),
          br (b114)
           (Q ((AV.int IntKind.i64 (1 : Int), [])))
           (Q ((AV.int IntKind.i64 (0 : Int), [])))))))) ∧
         ((∀ (m112 : Int),
         ((m112 = n + (↑ps.length : Int)) →
         br ((↑ec.length : Int) != m112)
          (Q ((AV.int IntKind.i64 (2 : Int), [])))
          (((Hyp (ec.length ≤ (1000000 : Nat))) ∧
          ((∀ (b116 : Bool),
          br (b116)
           (Q ((AV.int IntKind.i64 (1 : Int), [])))
           (Q ((AV.int IntKind.i64 (0 : Int), [])))))))))))))))))))))))
 (br (decide (sl < (0 : Int)))
  (Q ((AV.int IntKind.i64 (1 : Int), [])))
  (br (decide (sl ≥ IntKind.i64.wrap (n + (↑ps.length : Int))))
   (Q ((AV.int IntKind.i64 (1 : Int), [])))
   (br (decide (r < (0 : Int)))
    (Q ((AV.int IntKind.i64 (1 : Int), [])))
    (br (decide (r > (65535 : Int)))
     (Q ((AV.int IntKind.i64 (1 : Int), [])))
     (br (decide (k < (1 : Int)))
      (Q ((AV.int IntKind.i64 (6 : Int), [])))
      (br (decide (k > (3 : Int)))
       (Q ((AV.int IntKind.i64 (6 : Int), [])))
       (br (decide (sl ≥ n))
        (br (k != (3 : Int))
         (Q ((AV.int IntKind.i64 (6 : Int), [])))
         ((∀ (b109 : Bool),
         br (!b109)
          (Q ((AV.int IntKind.i64 (1 : Int), [])))
          (((Hyp ((0 : Int) ≤ n ∧ n ≤ (1000 : Int) ∧ ps.length ≤ (1000 : Nat))) ∧
          (((br ((↑ec.length : Int) != (0 : Int))
           (Q ((AV.int IntKind.i64 (2 : Int), [])))
           (((Hyp (ec.length ≤ (1000000 : Nat))) ∧
           ((∀ (b115 : Bool),
           br (b115)
            (Q ((AV.int IntKind.i64 (1 : Int), [])))
            (Q ((AV.int IntKind.i64 (0 : Int), [])))))))) ∧
          ((∀ (m113 : Int),
          ((m113 = n + (↑ps.length : Int)) →
          br ((↑ec.length : Int) != m113)
           (Q ((AV.int IntKind.i64 (2 : Int), [])))
           (((Hyp (ec.length ≤ (1000000 : Nat))) ∧
           ((∀ (b117 : Bool),
           br (b117)
            (Q ((AV.int IntKind.i64 (1 : Int), [])))
            (Q ((AV.int IntKind.i64 (0 : Int), [])))))))))))))))))
        ((∀ (b108 : Bool),
        br (!b108)
         (Q ((AV.int IntKind.i64 (1 : Int), [])))
         (((Hyp ((0 : Int) ≤ n ∧ n ≤ (1000 : Int) ∧ ps.length ≤ (1000 : Nat))) ∧
         (((br ((↑ec.length : Int) != (0 : Int))
          (Q ((AV.int IntKind.i64 (2 : Int), [])))
          (((Hyp (ec.length ≤ (1000000 : Nat))) ∧
          ((∀ (b114 : Bool),
          br (b114)
           (Q ((AV.int IntKind.i64 (1 : Int), [])))
           (Q ((AV.int IntKind.i64 (0 : Int), [])))))))) ∧
         ((∀ (m112 : Int),
         ((m112 = n + (↑ps.length : Int)) →
         br ((↑ec.length : Int) != m112)
          (Q ((AV.int IntKind.i64 (2 : Int), [])))
          (((Hyp (ec.length ≤ (1000000 : Nat))) ∧
          ((∀ (b116 : Bool),
          br (b116)
           (Q ((AV.int IntKind.i64 (1 : Int), [])))
           (Q ((AV.int IntKind.i64 (0 : Int), [])))))))))))))))))))))))) := by kernel_rfl
end Go.Proofs.YtiemjcchlfbglaaGreatE
/- What a locus emits, roughly: the small functions' specs hold. -/
namespace Go.Proofs.YtiemjcchlfbglaaGreatE
open Go
set_option linter.unusedVariables false
set_option linter.unusedSimpArgs false
set_option maxRecDepth 100000

theorem bleR {a b : Nat} (h : a ≤ b) : Nat.ble a b = true := by rw [Nat.ble_eq]; exact h
theorem dec_pos (s : ByteArray) (p : Nat) (hp : p < s.size) : 1 ≤ (Utf8.decode s p).2 := by
  by_cases ha : (s[p]'hp).toNat < 128
  · rw [decode_ascii s p hp ha]; exact Nat.le_refl _
  · exact (decode_high s p hp (by omega)).2
theorem rowsB_size (l : List (List AV)) : (⟨(rowsBytes l).toArray⟩ : ByteArray).size = l.length := by
  simp [ByteArray.size, rowsBytes]
theorem bytesR_len (l : List UInt8) : (bytesRows l).length = l.length := by simp [bytesRows]
theorem okLBitsR : OkLp Tryz.prog H0 106 5 lBitsR := by
  refine okLp_of (U := 6) (k := 6) okU2 lBitsR (fun vals _ => match vals with | [_, .int _ size, _, _, .int _ i] => (size - i).toNat | _ => 0) fun vals h Q hl => ?_
  unfold lBitsR at hl
  split at hl
  · rename_i n size m len i rows
    obtain ⟨⟨h0, h1, h2, h3, h4, h5⟩, hq⟩ := hyp_iff.1 hl
    refine to (nfBitsRa ..) (br_intro (fun c => ?_) fun c => hq _ h4)
    have c := of_decide_eq_true c
    have w1 : IntKind.i64.wrap (size - 1) = size - 1 := wr (by omega) (by omega)
    have w2 : IntKind.i64.wrap (size - 1 - i) = size - 1 - i := wr (by omega) (by omega)
    have w3 : IntKind.i64.wrap (i + 1) = i + 1 := wr (by omega) (by omega)
    rw [w1, w2, w3]
    simp only [chk_iff]
    exact ⟨by omega, fun z1 _ z2 _ => ⟨⟨h0, by omega⟩, by omega, by show (size - (i + 1)).toNat < (size - i).toNat; omega, hyp_iff.2 ⟨⟨by omega, by omega, h2, h3, by rw [List.length_set]; exact h4, h5⟩, hq⟩⟩⟩
  · exact hl.elim
theorem okLSumR : OkLp Tryz.prog H0 116 3 lSumR := by
  refine okLp_of (U := 6) (k := 6) okU2 lSumR (fun _ h => match h with | [.iter s p] => s.size - p | _ => 0) fun vals h Q hl => ?_
  unfold lSumR at hl
  split at hl
  · rename_i n s p
    refine to (nfSumRa ..) (br_intro (fun c => ?_) fun c => hl n)
    have c := of_decide_eq_true c
    have hd := dec_pos s p c
    have hm : s.size - (p + (Utf8.decode s p).2) < s.size - p := by omega
    intro _ _ _ _ _ _ _ _
    exact br_intro (fun _ => fun _ _ => ⟨hm, hl⟩) fun _ => ⟨hm, hl⟩
  · exact hl.elim
theorem okLNextR : OkLp Tryz.prog H0 111 1003 lNextR := by
  refine okLp_of (U := 6) (k := 6) okU2 lNextR (fun _ h => match h with | [_, .iter s p] => s.size - p | _ => 0) fun vals h Q hl => ?_
  unfold lNextR at hl
  split at hl
  · rename_i size n s t p
    refine to (nfNextRa ..) (br_intro (fun c => ?_) fun c => hl n)
    have c := of_decide_eq_true c
    have hd := dec_pos t p c
    have hm : t.size - (p + (Utf8.decode t p).2) < t.size - p := by omega
    intro _ _ _ _
    exact ⟨hm, hl⟩
  · exact hl.elim
theorem okLIdxE : OkLp Tryz.prog H0 125 2 lIdxE := by
  refine okLp_of (U := 6) (k := 6) okU2 lIdxE (fun vals _ => match vals with | [_, _, .int _ m, .int _ i] => (m - i).toNat | _ => 0) fun vals h Q hl => ?_
  unfold lIdxE at hl
  split at hl
  · rename_i nl rs m i
    obtain ⟨⟨h0, h1, h2, h3⟩, hq1, hq2⟩ := hyp_iff.1 hl
    refine to (nfIdxE ..) (br_intro (fun c => ?_) fun c => hq1)
    have c := of_decide_eq_true c
    have w3 : IntKind.i64.wrap (i + 1) = i + 1 := wr (by omega) (by omega)
    have hm : (m - (i + 1)).toNat < (m - i).toNat := by omega
    have hr := hq2 i h1
    have hn : m = rs.length ∧ 0 ≤ i + 1 ∧ i + 1 ≤ m ∧ rs.length ≤ 1000000 := ⟨h0, by omega, by omega, h3⟩
    rw [w3, chk_iff]
    refine ⟨⟨h1, by omega⟩, ?_⟩
    repeat' first | exact br_intro (fun _ => hr) fun _ => ⟨hm, hyp_iff.2 ⟨hn, hq1, hq2⟩⟩ | refine br_intro (fun _ => ?_) fun _ => ?_ | exact hr | exact ⟨hm, hyp_iff.2 ⟨hn, hq1, hq2⟩⟩
  · exact hl.elim
theorem okX1L : OkSp Tryz.prog H0 X1L := ⟨okU2.fn, okLBitsR, okLSumR, okLNextR, okLIdxE, trivial⟩
theorem okBitsR : OkS Tryz.prog H0 106 sBitsR := by
  intro args h Q hq
  unfold sBitsR at hq
  split at hq
  · rename_i n size
    obtain ⟨⟨h1, h2⟩, hq⟩ := hyp_iff.1 hq
    refine in_ok (S := X1L) (U := 6) (k := 6) okX1L (to (nfBitsR ..) ?_)
    refine br_intro (fun c => absurd (of_decide_eq_true c) (by omega)) fun _ => br_intro (fun c => absurd (of_decide_eq_true c) (by omega)) fun _ => ?_
    simp only [chk_iff, hyp_iff]
    refine ⟨by omega, by omega, ⟨by omega, by omega, by omega, by omega, by rw [List.length_replicate], h2⟩, fun rows hr => ⟨by omega, hq _ ?_⟩⟩
    rw [rowsB_size, List.drop_zero, List.length_take, hr]
    omega
  · exact hq.elim
theorem okSumR : OkS Tryz.prog H0 116 sSumR := by
  intro args h Q hq
  unfold sSumR at hq
  split at hq
  · exact in_ok (S := X1L) (U := 6) (k := 6) okX1L (to (nfSumR ..) hq)
  · exact hq.elim
theorem okNextR : OkS Tryz.prog H0 111 sNextR := by
  intro args h Q hq
  unfold sNextR at hq
  split at hq
  · rename_i size s
    obtain ⟨⟨h1, h2⟩, hq⟩ := hyp_iff.1 hq
    refine in_ok (S := X1L) (U := 6) (k := 6) okX1L (to (nfNextR ..) ?_)
    simp only [chk_iff]
    exact ⟨⟨h1, h2⟩, fun z => ⟨⟨h1, h2⟩, hq _ _ (by rw [ByteArray.size_extract]; omega)⟩⟩
  · exact hq.elim
theorem okHasE : OkS Tryz.prog H0 122 sHasE := by
  intro args h Q hq
  unfold sHasE at hq
  split at hq
  · rename_i nl rs
    obtain ⟨h1, hq⟩ := hyp_iff.1 hq
    refine in_ok (S := X1L) (U := 6) (k := 6) okX1L (to (nfHasE ..) ?_)
    exact hyp_iff.2 ⟨⟨rfl, Int.le_refl _, by omega, h1⟩, hq _, fun _ _ => hq _⟩
  · exact hq.elim
theorem okValue : OkS Tryz.prog H0 121 sValR := by
  intro args h Q hq
  unfold sValR at hq
  split at hq
  · refine in_ok (S := U2) (U := 6) (k := 6) okU2 (to (nfValue ..) ?_)
    repeat' first | exact hq _ | refine br_intro (fun _ => ?_) fun _ => ?_
  · exact hq.elim
theorem okEmpty : OkS Tryz.prog H0 120 sValR := by
  intro args h Q hq
  unfold sValR at hq
  split at hq
  · exact in_ok (S := U2) (U := 6) (k := 6) okU2 (to (nfEmpty ..) (hq _))
  · exact hq.elim
theorem okEchoes : OkS Tryz.prog H0 113 sEchoes := by
  intro args h Q hq
  unfold sEchoes at hq
  split at hq
  · rename_i n pi e g fi nl ps k sl
    obtain ⟨⟨h1, h2, h3⟩, hq1, hq2⟩ := hyp_iff.1 hq
    refine in_ok (S := U2) (U := 6) (k := 6) okU2 (to (nfEchoes ..) ?_)
    exact br_intro (fun _ => br_intro (fun _ => hq2 _ (wr (by omega) (by omega))) fun _ => hq1) fun _ => hq1
  · exact hq.elim
theorem and_mask (x : Int) : 0 ≤ IntKind.u64.wrap (↑(BitVec.ofInt IntKind.u64.bits x &&& BitVec.ofInt IntKind.u64.bits (4294967295 : Int)).toNat : Int) ∧ IntKind.u64.wrap (↑(BitVec.ofInt IntKind.u64.bits x &&& BitVec.ofInt IntKind.u64.bits (4294967295 : Int)).toNat : Int) ≤ 4294967295 := by
  have h : (BitVec.ofInt IntKind.u64.bits x &&& BitVec.ofInt IntKind.u64.bits (4294967295 : Int)).toNat ≤ 4294967295 := by
    rw [BitVec.toNat_and]
    exact Nat.le_trans Nat.and_le_right (by decide)
  rw [IntKind.wrap_u64]
  omega
theorem u64w {x : Int} (h1 : 0 ≤ x) (h2 : x ≤ 4294967295) : IntKind.u64.wrap x = x := by
  rw [IntKind.wrap_u64]; omega
theorem fdiv0 {x : Int} (h1 : 0 ≤ x) (h2 : x ≤ 4294967295) : x.fdiv 4294967296 = 0 := by
  rw [Int.fdiv_eq_ediv_of_nonneg _ (by decide)]; omega
theorem okMulR : OkS Tryz.prog H0 118 sMulR := by
  intro args h Q hq
  unfold sMulR at hq
  split at hq
  · rename_i x y
    obtain ⟨⟨h1, h2, h3⟩, hQ⟩ := hyp_iff.1 hq
    subst h1
    refine in_ok (S := U2) (U := 6) (k := 6) okU2 (to (nfMulR ..) ?_)
    intro z100 e100 z102 e102 z104 e104 z106 e106 z108 e108 z110 e110 z112 e112 z114 e114
    have e100 : z100 = 1 := by rw [e100]; decide
    have e102 : z102 = 0 := by rw [e102]; decide
    have b104 := and_mask y
    rw [← e104] at b104
    have e106 : z106 = 0 := by rw [e106]; exact fdiv0 h2 (by omega)
    subst e100; subst e102; subst e106
    have e108 : z108 = 0 := by rw [e108, Int.one_mul, u64w b104.1 b104.2]; exact fdiv0 b104.1 b104.2
    subst e108
    have w0 : IntKind.u64.wrap 0 = 0 := by decide
    rw [Int.zero_mul, w0, Int.zero_add, w0] at e110 e112
    have e110 : z110 = 0 := by rw [e110]; decide
    have e112 : z112 = 0 := by rw [e112]; decide
    subst e110; subst e112
    rw [Int.mul_zero, w0, Int.zero_add, w0] at e114
    have e114 : z114 = 0 := by rw [e114]; decide
    subst e114
    rw [Int.zero_mul, w0, Int.zero_add, w0, Int.zero_add, w0, Int.one_mul, u64w h2 (by omega)]
    exact hQ
  · exact hq.elim
theorem getD0 {rows : List (List AV)} {n : Nat} {r : List AV} (h : rows.take n = List.replicate n r) (hn : 1 ≤ n) : rows.getD 0 [] = r := by
  obtain ⟨k, rfl⟩ : ∃ k, n = k + 1 := ⟨n - 1, by omega⟩
  cases rows with
  | nil => simp [List.replicate_succ] at h
  | cons a l => rw [List.take_succ_cons, List.replicate_succ] at h; injection h
theorem rep_step {rows : List (List AV)} {n c : Nat} {r : List AV} (h : rows.take n = List.replicate n r) (hc : c ≤ n) (hl : n + c ≤ rows.length) :
    (rows.take n ++ (rows.take c ++ rows.drop (n + c))).take (n + c) = List.replicate (n + c) r ∧ (rows.take n ++ (rows.take c ++ rows.drop (n + c))).length = rows.length := by
  have h2 : rows.take c = List.replicate c r := by
    have : (rows.take n).take c = rows.take c := by rw [List.take_take, Nat.min_eq_left hc]
    rw [← this, h, List.take_replicate, Nat.min_eq_left hc]
  constructor
  · rw [h, h2, ← List.append_assoc, List.replicate_append_replicate]
    exact List.take_left' (by simp)
  · simp only [List.length_append, List.length_take, List.length_drop]; omega
theorem okU2M : OkSp Tryz.prog H0 (⟨(118, sMulR) :: U2.fn, []⟩ : Sp) := ⟨⟨okMulR, okU2.fn⟩, trivial⟩
theorem okLRep : OkLp Tryz.prog H0 98 8 lRep := by
  refine okLp_of (U := 6) (k := 6) okU2M lRep (fun vals _ => match vals with | [.sl _ _ m, .int _ n] => ((m : Int) - n).toNat | _ => 0) fun vals h Q hl => ?_
  unfold lRep at hl
  split at hl
  · rename_i m n rows
    obtain ⟨⟨h0, h1, h2, h3, h4, h5⟩, hq⟩ := hyp_iff.1 hl
    refine to (nfRepa ..) (br_intro (fun c => ?_) fun c => ?_)
    · have c := of_decide_eq_true c
      obtain ⟨k, rfl⟩ : ∃ k : Nat, n = k := ⟨n.toNat, by omega⟩
      have key : ∀ j : Nat, j ≤ k → k + j ≤ m → 1 ≤ j → ∀ rows', rows' = rows.take k ++ (rows.take j ++ rows.drop (k + j)) → ((m : Int) - ((k : Int) + j)).toNat < ((m : Int) - k).toNat ∧ lRep [.sl 0 0 m, .int .i64 ((k : Int) + j)] [.arr 2 29 [.int .i64, .int .i64] rows'] Q := fun j hj hkj hj1 rows' e => by
        have hs := rep_step (rows := rows) (n := k) (c := j) h5 hj (by omega)
        rw [← e] at hs
        have g := getD0 hs.1 (by omega)
        refine ⟨by omega, hyp_iff.2 ⟨⟨by omega, by omega, by omega, h3, by rw [hs.2]; exact h4, ?_⟩, ?_⟩⟩
        · rw [g]; exact hs.1
        · rw [g]; exact hq
      have ek : ((k : Int)).toNat = k := Int.toNat_natCast k
      simp only [ek, Nat.zero_add, Nat.sub_zero, List.drop_zero, List.length_take, chk_iff]
      refine ⟨by omega, by omega, by omega, by omega, by omega, br_intro (fun c2 => ?_) fun c2 => ?_⟩
      · have c2 := Nat.le_of_ble_eq_true c2
        refine ⟨by omega, by omega, ?_⟩
        rw [wr (x := (k : Int) + k) (by omega) (by omega), Nat.min_eq_left (show k ≤ rows.length by omega)]
        exact key k (Nat.le_refl _) (by omega) (by omega) _ rfl
      · have c2 : ¬ k ≤ m - k := fun hh => by rw [bleR hh] at c2; cases c2
        refine ⟨by omega, by omega, ?_⟩
        rw [wr (x := (k : Int) + (m - k : Nat)) (by omega) (by omega), Nat.min_eq_left (show m - k ≤ rows.length by omega)]
        exact key (m - k) (by omega) (by omega) (by omega) _ rfl
    · have c := of_decide_eq_false c
      have e : n.toNat = m := by omega
      rw [e] at h5
      exact hq rows (by rw [← h5, List.take_of_length_le (by omega)])
  · exact hl.elim
theorem okX1R : OkSp Tryz.prog H0 X1R := ⟨⟨okMulR, okU2.fn⟩, okLRep, trivial⟩
theorem okRep : OkS Tryz.prog H0 98 sRep := by
  intro args h Q hq
  unfold sRep at hq
  split at hq
  · rename_i nl a b n
    obtain ⟨⟨h1, h2⟩, hq⟩ := hyp_iff.1 hq
    refine in_ok (S := X1R) (U := 6) (k := 6) okX1R (to (nfRep ..) ?_)
    have w1 : IntKind.u64.wrap n = n := u64w h1 (by omega)
    have w2 : IntKind.i64.wrap n = n := wr (by omega) (by omega)
    have w3 : IntKind.u64.wrap (↑(1 : Nat) : Int) = 1 := by decide
    obtain ⟨k, rfl⟩ : ∃ k : Nat, n = k := ⟨n.toNat, by omega⟩
    have ek : ((k : Int)).toNat = k := Int.toNat_natCast k
    rw [ek] at hq
    refine br_intro (fun c => absurd (of_decide_eq_true c) (by omega)) fun _ => ?_
    have fin : ∀ rows : List (List AV), rows = List.replicate k [AV.int .i64 a, AV.int .i64 b] → chk (0 + k ≤ rows.length) (Q (AV.row false [K.int IntKind.i64, K.int IntKind.i64] (List.take k (List.drop 0 rows)), [])) := fun rows hr => by
      rw [chk_iff, List.drop_zero, List.take_of_length_le (by rw [hr, List.length_replicate]; exact Nat.le_refl _)]
      exact ⟨by rw [hr, List.length_replicate]; omega, hq _ hr⟩
    simp only [w1, w2, w3, ek]
    refine hyp_iff.2 ⟨⟨trivial, h1, h2⟩, br_intro (fun c => absurd (of_decide_eq_true c) (by omega)) fun _ => ?_⟩
    rw [chk_iff, chk_iff, chk_iff]
    refine ⟨by omega, by omega, by rw [List.length_replicate]; omega, br_intro (fun c => ?_) fun c => ?_⟩
    · have c := Nat.le_of_ble_eq_true c
      refine hyp_iff.2 ⟨⟨by omega, by omega, .inl (by omega), by omega, ?_, trivial⟩, fin⟩
      simp only [List.length_cons, List.length_drop, List.length_replicate]; omega
    · have c : k = 0 := Nat.eq_zero_of_not_pos fun hh => by rw [bleR hh] at c; cases c
      subst c
      rw [chk_iff]
      exact ⟨rfl, hyp_iff.2 ⟨⟨by omega, by omega, .inr rfl, by omega, rfl, rfl⟩, fun rows hr => fin rows hr⟩⟩
  · exact hq.elim
theorem turn_leaf {s : ByteArray} {Q : AV × List AObj → Prop} (hq : ∀ z : ByteArray, z.size = s.size → Q (.str z, [])) {i : Int} (r : List AV) (h0 : 0 ≤ i ∧ i < (s.size : Int)) :
    chk (0 ≤ i ∧ i < (s.size : Int)) (chk (0 + i.toNat < (bytesRows s.data.toList).length) (chk (0 + s.size ≤ ((bytesRows s.data.toList).set (0 + i.toNat) r).length) (Q (.str ⟨(rowsBytes (List.take s.size (List.drop 0 ((bytesRows s.data.toList).set (0 + i.toNat) r)))).toArray⟩, [])))) := by
  have hl : (bytesRows s.data.toList).length = s.size := by rw [bytesR_len]; rfl
  rw [chk_iff, chk_iff, chk_iff, List.length_set, hl]
  refine ⟨h0, by omega, by omega, hq _ ?_⟩
  rw [rowsB_size, List.drop_zero, List.length_take, List.length_set, hl, Nat.min_self]
theorem okTurnR : OkS Tryz.prog H0 95 sTurnR := by
  intro args h Q hq
  unfold sTurnR at hq
  split at hq
  · rename_i s i
    obtain ⟨h1, hq⟩ := hyp_iff.1 hq
    refine in_ok (S := U2) (U := 6) (k := 6) okU2 (to (nfTurnR ..) ?_)
    refine br_intro (fun _ => hq _ rfl) fun c1 => br_intro (fun _ => hq _ rfl) fun c2 => ?_
    have c1 := of_decide_eq_false c1
    have c2 := of_decide_eq_false c2
    have h0 : 0 ≤ i ∧ i < (s.size : Int) := ⟨by omega, by omega⟩
    have hl : (bytesRows s.data.toList).length = s.size := by rw [bytesR_len]; rfl
    rw [chk_iff, chk_iff, chk_iff]
    refine ⟨by omega, h0, by rw [hl]; omega, ?_⟩
    repeat' first | exact turn_leaf hq _ h0 | refine br_intro (fun _ => ?_) fun _ => ?_
  · exact hq.elim
theorem okX1 : OkSp Tryz.prog H0 X1 := ⟨⟨okBitsR, okSumR, okNextR, okHasE, okValue, okEmpty, okEchoes, okRep, okTurnR, okU2.fn⟩, trivial⟩
theorem okOpenR : OkS Tryz.prog H0 110 sOpenR := by
  intro args h Q hq
  unfold sOpenR at hq
  split at hq
  · rename_i s
    obtain ⟨h1, hq⟩ := hyp_iff.1 hq
    refine in_ok (S := X1) (U := 6) (k := 6) okX1 (to (nfOpenR ..) ?_)
    have hn : ∀ e : Int, Q (.tup [.str (ByteArray.mk #[]), .int .i64 e], []) := fun e => hq _ e (Nat.zero_le _)
    refine br_intro (fun c => ?_) fun _ => hn _
    have c := of_decide_eq_true c
    have w1 : IntKind.i64.wrap ((s.size : Int) - 1) = (s.size : Int) - 1 := wr (by omega) (by omega)
    have w2 : IntKind.i64.wrap ((s.size : Int) - 1 - 16) = (s.size : Int) - 1 - 16 := wr (by omega) (by omega)
    rw [w1, w2, chk_iff]
    refine ⟨by omega, br_intro (fun _ => hyp_iff.2 ⟨by omega, br_intro (fun _ => hn _) fun _ => br_intro (fun _ => hn _) fun c2 => ?_⟩) fun _ => hn _⟩
    have c2 := of_decide_eq_false c2
    rw [chk_iff, chk_iff, chk_iff]
    refine ⟨by omega, by omega, by omega, fun z => hyp_iff.2 ⟨by omega, fun z1 _ => br_intro (fun _ => hn _) fun _ => ?_⟩⟩
    rw [chk_iff]
    exact ⟨by omega, hq _ _ (ext_le s _ _)⟩
  · exact hq.elim
theorem okWrapR : OkS Tryz.prog H0 108 sWrapR := by
  intro args h Q hq
  unfold sWrapR at hq
  split at hq
  · rename_i s
    obtain ⟨h1, hq⟩ := hyp_iff.1 hq
    refine in_ok (S := X1) (U := 6) (k := 6) okX1 (to (nfWrapR ..) fun z => hyp_iff.2 ⟨by omega, fun z1 hz => ?_⟩)
    rw [chk_iff, chk_iff]
    refine ⟨bleR (by omega), bleR (by rw [ByteArray.size_append]; omega), hq _ ?_⟩
    rw [ByteArray.size_append, ByteArray.size_append]
    show s.size + z1.size + 1 = _
    omega
  · exact hq.elim
theorem okItemR : OkS Tryz.prog H0 112 sItemR := by
  intro args h Q hq
  unfold sItemR at hq
  split at hq
  · rename_i s
    obtain ⟨h1, hq⟩ := hyp_iff.1 hq
    refine in_ok (S := X1) (U := 6) (k := 6) okX1 (to (nfItemR ..) (hyp_iff.2 ⟨by omega, fun z t ht => hyp_iff.2 ⟨by omega, fun z2 t2 ht2 => hq _ _ _ (by omega)⟩⟩))
  · exact hq.elim
theorem okCheckR : OkS Tryz.prog H0 114 sCheckR := by
  intro args h Q hq
  unfold sCheckR at hq
  split at hq
  · rename_i n pi e g fi nl ps k r sl pk pv nl2 ec
    obtain ⟨⟨h1, h2, h3, h4⟩, hq⟩ := hyp_iff.1 hq
    have hh : 0 ≤ n ∧ n ≤ 1000 ∧ ps.length ≤ 1000 := ⟨h1, h2, h3⟩
    refine in_ok (S := X1) (U := 6) (k := 6) okX1 (to (nfCheckR ..) ?_)
    repeat' first | exact hq _ | refine br_intro (fun _ => ?_) fun _ => ?_ | refine hyp_iff.2 ⟨hh, ?_⟩ | refine hyp_iff.2 ⟨h4, ?_⟩ | refine ⟨?_, ?_⟩ | intro _
  · exact hq.elim
theorem okX2 : OkSp Tryz.prog H0 X2 := ⟨⟨okOpenR, okWrapR, okItemR, okCheckR, okX1.fn⟩, trivial⟩
end Go.Proofs.YtiemjcchlfbglaaGreatE
/- What a locus emits, roughly: frames read and written; acts; all of it. -/
namespace Go.Proofs.YtiemjcchlfbglaaGreatE
open Go
set_option linter.unusedVariables false

def lReadR : LW := fun vals h Q => match vals, h with
  | [.ptr 0 0, .ptr 1 0, .ptr 2 0, .ptr 3 0], [.box [.int .i64 n, .int .i64 pi, .int .i64 e, .int .i64 g, .int .i64 fi, .row nl [.int .i64] ps], .box [.int .i64 z1, .int .i64 z2, .int .i64 z3, .int .i64 z4, .int .i64 z5, .nils], .box [.str s], .box [.int .i64 k, .int .i64 r, .int .i64 sl, .int .i64 pk, .int .i64 pv, .nils]] =>
    Hyp (∃ q : Nat, s.size = 10 * q ∧ q ≤ 15) ∧ (Q (.exit 0) [.ptr 0 0, .ptr 1 0, .ptr 2 0] [.box [.int .i64 n, .int .i64 pi, .int .i64 e, .int .i64 g, .int .i64 fi, .row nl [.int .i64] ps], .box [.int .i64 z1, .int .i64 z2, .int .i64 z3, .int .i64 z4, .int .i64 z5, .nils], .box [.int .i64 k, .int .i64 r, .int .i64 sl, .int .i64 pk, .int .i64 pv, .nils]] ∧ ∀ rows : List (List AV), rows.length ≤ 15 → Q (.exit 0) [.ptr 0 0, .ptr 1 0, .ptr 2 0] [.box [.int .i64 n, .int .i64 pi, .int .i64 e, .int .i64 g, .int .i64 fi, .row nl [.int .i64] ps], .box [.int .i64 z1, .int .i64 z2, .int .i64 z3, .int .i64 z4, .int .i64 z5, .nils], .box [.int .i64 k, .int .i64 r, .int .i64 sl, .int .i64 pk, .int .i64 pv, .sl 3 0 rows.length], .arr 2 29 [.int .i64, .int .i64] rows])
  | [.ptr 0 0, .ptr 1 0, .ptr 2 0, .ptr 3 0], [.box [.int .i64 n, .int .i64 pi, .int .i64 e, .int .i64 g, .int .i64 fi, .row nl [.int .i64] ps], .box [.int .i64 z1, .int .i64 z2, .int .i64 z3, .int .i64 z4, .int .i64 z5, .nils], .box [.str s], .box [.int .i64 k, .int .i64 r, .int .i64 sl, .int .i64 pk, .int .i64 pv, .sl 4 0 m], .arr 2 29 [.int .i64, .int .i64] rs] =>
    (rs.length = m ∧ ∃ q : Nat, s.size = 10 * q ∧ q + m ≤ 15) ∧ (∀ rows : List (List AV), rows.length ≤ 15 → Q (.exit 0) [.ptr 0 0, .ptr 1 0, .ptr 2 0] [.box [.int .i64 n, .int .i64 pi, .int .i64 e, .int .i64 g, .int .i64 fi, .row nl [.int .i64] ps], .box [.int .i64 z1, .int .i64 z2, .int .i64 z3, .int .i64 z4, .int .i64 z5, .nils], .box [.int .i64 k, .int .i64 r, .int .i64 sl, .int .i64 pk, .int .i64 pv, .sl 3 0 rows.length], .arr 2 29 [.int .i64, .int .i64] rows])
  | _, _ => False
def sReadR : SW := fun args h Q => match args, h with
  | [.agg [.int .i64 n, .int .i64 pi, .int .i64 e, .int .i64 g, .int .i64 fi, .row nl [.int .i64] ps], .str s], [] => Hyp (0 ≤ n ∧ n ≤ 12 ∧ ps.length ≤ 3 ∧ s.size ≤ 1000000) ∧ ∀ (k' r' sl' pk' pv' : Int) (nl' : Bool) (rows : List (List AV)) (e' : Int), rows.length ≤ 15 → Q (.tup [.agg [.int .i64 k', .int .i64 r', .int .i64 sl', .int .i64 pk', .int .i64 pv', .row nl' [.int .i64, .int .i64] rows], .int .i64 e'], [])
  | _, _ => False
def lTextR : LW := fun vals h Q => match vals, h with
  | [.ptr 0 0, .row nl2 [.int .i64, .int .i64] ec, .int .i64 len, .int .i64 i], [.tb 116 [.ptr 0 0, .sl 1 0 m], .arr 2 5 [.int .u8] rows] =>
    Hyp (0 ≤ i ∧ i ≤ len ∧ len = ec.length ∧ ec.length ≤ 30 ∧ (m : Int) = 34 + 10 * i ∧ rows.length = m ∧ s_bytesOk rows = true) ∧
      ∀ (rows' : List (List AV)) (m' : Nat), rows'.length = m' → 0 < m' → m' ≤ 334 → s_bytesOk rows' = true → Q (.exit 0) [.ptr 0 0] [.tb 116 [.ptr 0 0, .sl 1 0 m'], .arr 2 5 [.int .u8] rows']
  | _, _ => False
def sTextR : SW := fun args h Q => match args, h with
  | [.agg [.int .i64 n, .int .i64 pi, .int .i64 e, .int .i64 g, .int .i64 fi, .row nl [.int .i64] ps], .agg [.int .i64 k, .int .i64 r, .int .i64 sl, .int .i64 pk, .int .i64 pv, .row nl2 [.int .i64, .int .i64] ec]], [] => Hyp (ec.length ≤ 30) ∧ ∀ z : ByteArray, z.size ≤ 1000 → Q (.str z, [])
  | _, _ => False
def X2F : Sp := ⟨X2.fn, [(102, 10, lReadR), (97, 4, lTextR)]⟩
def sToldR : SW := fun args h Q => match args, h with
  | [.agg [.int .i64 n, .int .i64 pi, .int .i64 e, .int .i64 g, .int .i64 fi, .row nl [.int .i64] ps], .int .i64 ro, .int .i64 sl, .str base], [] => Hyp (s_confOk n pi e g fi (ints ps) = true ∧ base.size ≤ 1000000) ∧ ∀ (k' r' sl' pk' pv' : Int) (nl' : Bool) (rows : List (List AV)), rows.length ≤ 15 → Q (.agg [.int .i64 k', .int .i64 r', .int .i64 sl', .int .i64 pk', .int .i64 pv', .row nl' [.int .i64, .int .i64] rows], [])
  | _, _ => False
def X3 : Sp := ⟨(102, sReadR) :: (97, sTextR) :: X2.fn, []⟩
def lToldR : LW := fun vals h Q => match vals, h with
  | [.ptr 0 0, .ptr 1 0, .int .i64 len, .int .i64 i], [.box [.int .i64 z1, .int .i64 z2, .int .i64 z3, .int .i64 z4, .int .i64 z5, .nils], .box [.int .i64 k, .int .i64 r, .int .i64 sl, .int .i64 pk, .int .i64 pv, .sl 2 0 m], .arr 2 29 [.int .i64, .int .i64] rs] =>
    Hyp (0 ≤ i ∧ i ≤ len ∧ len = m ∧ rs.length = m ∧ m ≤ 15) ∧ ∀ rows : List (List AV), rows.length = m → Q (.exit 0) [.ptr 0 0, .ptr 1 0] [.box [.int .i64 z1, .int .i64 z2, .int .i64 z3, .int .i64 z4, .int .i64 z5, .nils], .box [.int .i64 k, .int .i64 r, .int .i64 sl, .int .i64 pk, .int .i64 pv, .sl 2 0 m], .arr 2 29 [.int .i64, .int .i64] rows]
  | _, _ => False

def s_actsB (acts : List (List AV)) : Prop := acts.length ≤ 1000 ∧ ∀ r ∈ acts, (actText r).size ≤ 1000000
def s_emitR (hit : Bool) (fr to_ ro : Int) (base z : ByteArray) : Prop := z.size ≤ 1000000 ∧ (hit = false ∨ to_ ≤ ro → z = base) ∧ (hit = true → ro < to_ → ro < fr → z = ⟨#[]⟩)
def s_dom (n pi e g fi : Int) (ps acts : List (List AV)) (ro sl dst : Int) (base : ByteArray) : Prop :=
  s_confOk n pi e g fi (ints ps) = true ∧ 0 ≤ ro ∧ ro ≤ 1000000 ∧ 0 ≤ sl ∧ sl ≤ 1000000 ∧ 0 ≤ dst ∧ dst ≤ 1000000 ∧ base.size ≤ 1000000 ∧ s_actsB acts
def sDoneR : SW := fun args h Q => match args, h with
  | [.agg [.int .i64 n, .int .i64 pi, .int .i64 e, .int .i64 g, .int .i64 fi, .row nl [.int .i64] ps], .agg [.int .i64 how, .int .i64 m, .str text], .int .i64 ro, .int .i64 sl, .str base], [] => Hyp (s_confOk n pi e g fi (ints ps) = true ∧ base.size ≤ 1000000 ∧ text.size ≤ 1000000) ∧ ∀ z : ByteArray, z.size ≤ 1000000 → Q (.str z, [])
  | _, _ => False
def sEmitR : SW := fun args h Q => match args, h with
  | [.agg [.int .i64 n, .int .i64 pi, .int .i64 e, .int .i64 g, .int .i64 fi, .row nl [.int .i64] ps], .agg [.int .i64 kind, .int .i64 at_, .int .i64 fr, .int .i64 to_, .row nl2 [.int .i64, .int .i64, .str] acts, devs], .int .i64 ro, .int .i64 sl, .int .i64 fm, .int .i64 dst, .str base], [] =>
    chk (isRN devs = true) (Hyp (s_dom n pi e g fi ps acts ro sl dst base) ∧ ∀ z, s_emitR (s_hit n kind at_ fm dst) fr to_ ro base z → Q (.str z, []))
  | _, _ => False
def X3L : Sp := ⟨X3.fn, [(96, 8, lToldR)]⟩
def X4 : Sp := ⟨(96, sToldR) :: X3.fn, []⟩
def X4d : Sp := ⟨(87, sDoneR) :: X4.fn, []⟩
def X5 : Sp := ⟨(72, sEmitR) :: X4d.fn, []⟩
end Go.Proofs.YtiemjcchlfbglaaGreatE
/- What path mode says of functions, printed by a program of this session; the kernel holds each. -/
namespace Go.Proofs.YtiemjcchlfbglaaGreatE
open Go
set_option maxRecDepth 100000
set_option linter.unusedVariables false
theorem nfReadR (n pi e g fi : Int) (nl : Bool) (ps : List (List AV)) (s : ByteArray) (Q : AV × List AObj → Prop) : inlW Tryz.prog H0 X2F 6 (InO Tryz.prog H0 X2F 6 6) 102 [cf n pi e g fi nl ps, .str s] [] Q = (
((Hyp (s.size ≤ (1000000 : Nat))) ∧
((∀ (z101 : ByteArray),
(∀ (e102 : Int),
((z101.size ≤ s.size) →
br (e102 != (0 : Int))
 (Q ((AV.tup
    [AV.agg
        [AV.int IntKind.i64 (0 : Int), AV.int IntKind.i64 (0 : Int), AV.int IntKind.i64 (0 : Int),
          AV.int IntKind.i64 (0 : Int), AV.int IntKind.i64 (0 : Int),
          AV.row true [K.int IntKind.i64, K.int IntKind.i64] []],
      AV.int IntKind.i64 e102],
  [])))
 (br (decide ((↑z101.size : Int) < (34 : Int)))
  (Q ((AV.tup
    [AV.agg
        [AV.int IntKind.i64 (0 : Int), AV.int IntKind.i64 (0 : Int), AV.int IntKind.i64 (0 : Int),
          AV.int IntKind.i64 (0 : Int), AV.int IntKind.i64 (0 : Int),
          AV.row true [K.int IntKind.i64, K.int IntKind.i64] []],
      AV.int IntKind.i64 (3 : Int)],
  [])))
  (((Hyp ((0 : Int) ≤ (2 : Int) ∧ (2 : Int) ≤ (↑z101.size : Int))) ∧
  ((∀ (z107 : Int),
  (∀ (t108 : ByteArray),
  (((↑t108.size : Int) + (2 : Int) = (↑z101.size : Int)) →
  ((Hyp ((0 : Int) ≤ (16 : Int) ∧ (16 : Int) ≤ (↑t108.size : Int))) ∧
  ((∀ (z111 : Int),
  (∀ (t112 : ByteArray),
  (((↑t112.size : Int) + (16 : Int) = (↑t108.size : Int)) →
  ((Hyp ((0 : Int) ≤ (6 : Int) ∧ (6 : Int) ≤ (↑t112.size : Int))) ∧
  ((∀ (z115 : Int),
  (∀ (t116 : ByteArray),
  (((↑t116.size : Int) + (6 : Int) = (↑t112.size : Int)) →
  ((Hyp ((10 : Nat) ≤ t116.size)) ∧
  ((∀ (k119 : Int),
  (∀ (v120 : Int),
  (∀ (t121 : ByteArray),
  ((t121.size + (10 : Nat) = t116.size) →
  ((Hyp ((0 : Int) ≤ n ∧ n ≤ (1000 : Int) ∧ ps.length ≤ (1000 : Nat))) ∧
  (((br ((↑t121.size : Int) != (0 : Int))
   (Q ((AV.tup
    [AV.agg
        [AV.int IntKind.i64 (0 : Int), AV.int IntKind.i64 (0 : Int), AV.int IntKind.i64 (0 : Int),
          AV.int IntKind.i64 (0 : Int), AV.int IntKind.i64 (0 : Int),
          AV.row true [K.int IntKind.i64, K.int IntKind.i64] []],
      AV.int IntKind.i64 (2 : Int)],
  [])))
   (((Hyp (∃ q, t121.size = (10 : Nat) * q ∧ q ≤ (15 : Nat))) ∧
   (((((Hyp ((0 : Int) ≤ n ∧ n ≤ (1000 : Int) ∧ ps.length ≤ (1000 : Nat) ∧ (0 : Nat) ≤ (1000000 : Nat))) ∧
   ((∀ (e'129 : Int),
   br (e'129 != (0 : Int))
    (Q ((AV.tup
    [AV.agg
        [AV.int IntKind.i64 (0 : Int), AV.int IntKind.i64 (0 : Int), AV.int IntKind.i64 (0 : Int),
          AV.int IntKind.i64 (0 : Int), AV.int IntKind.i64 (0 : Int),
          AV.row true [K.int IntKind.i64, K.int IntKind.i64] []],
      AV.int IntKind.i64 e'129],
  [])))
    (Q ((AV.tup
    [AV.agg
        [AV.int IntKind.i64 z107, AV.int IntKind.i64 z111, AV.int IntKind.i64 z115, AV.int IntKind.i64 k119,
          AV.int IntKind.i64 v120, AV.row true [K.int IntKind.i64, K.int IntKind.i64] []],
      AV.int IntKind.i64 (0 : Int)],
  []))))))) ∧
   ((∀ (rows128 : List (List AV)),
   ((rows128.length ≤ (15 : Nat)) →
   chk ((0 : Nat) + rows128.length ≤ rows128.length) (((Hyp ((0 : Int) ≤ n ∧
  n ≤ (1000 : Int) ∧
    ps.length ≤ (1000 : Nat) ∧ (List.take rows128.length (List.drop (0 : Nat) rows128)).length ≤ (1000000 : Nat))) ∧
   ((∀ (e'132 : Int),
   br (e'132 != (0 : Int))
    (Q ((AV.tup
    [AV.agg
        [AV.int IntKind.i64 (0 : Int), AV.int IntKind.i64 (0 : Int), AV.int IntKind.i64 (0 : Int),
          AV.int IntKind.i64 (0 : Int), AV.int IntKind.i64 (0 : Int),
          AV.row true [K.int IntKind.i64, K.int IntKind.i64] []],
      AV.int IntKind.i64 e'132],
  [])))
    (chk ((0 : Nat) + rows128.length ≤ rows128.length) (chk (((0 : Nat) + (List.take rows128.length (List.drop (0 : Nat) rows128)).length) * (16 : Nat) ≤ (140737488355328 : Nat)) (chk ((0 : Nat) + (List.take rows128.length (List.drop (0 : Nat) rows128)).length ≤ (9223372036854775807 : Nat)) (chk ((0 : Nat) + ((0 : Nat) + (List.take rows128.length (List.drop (0 : Nat) rows128)).length) ≤
  ([] ++ List.take rows128.length (List.drop (0 : Nat) rows128)).length) (Q ((AV.tup
    [AV.agg
        [AV.int IntKind.i64 z107, AV.int IntKind.i64 z111, AV.int IntKind.i64 z115, AV.int IntKind.i64 k119,
          AV.int IntKind.i64 v120,
          AV.row false [K.int IntKind.i64, K.int IntKind.i64]
            (List.take ((0 : Nat) + (List.take rows128.length (List.drop (0 : Nat) rows128)).length)
              (List.drop (0 : Nat) ([] ++ List.take rows128.length (List.drop (0 : Nat) rows128))))],
      AV.int IntKind.i64 (0 : Int)],
  []))))))))))))))))))) ∧
  ((∀ (m125 : Int),
  ((m125 = n + (↑ps.length : Int)) →
  br ((↑t121.size : Int) != IntKind.i64.wrap ((10 : Int) * m125))
   (Q ((AV.tup
    [AV.agg
        [AV.int IntKind.i64 (0 : Int), AV.int IntKind.i64 (0 : Int), AV.int IntKind.i64 (0 : Int),
          AV.int IntKind.i64 (0 : Int), AV.int IntKind.i64 (0 : Int),
          AV.row true [K.int IntKind.i64, K.int IntKind.i64] []],
      AV.int IntKind.i64 (2 : Int)],
  [])))
   (((Hyp (∃ q, t121.size = (10 : Nat) * q ∧ q ≤ (15 : Nat))) ∧
   (((((Hyp ((0 : Int) ≤ n ∧ n ≤ (1000 : Int) ∧ ps.length ≤ (1000 : Nat) ∧ (0 : Nat) ≤ (1000000 : Nat))) ∧
   ((∀ (e'131 : Int),
   br (e'131 != (0 : Int))
    (Q ((AV.tup
    [AV.agg
        [AV.int IntKind.i64 (0 : Int), AV.int IntKind.i64 (0 : Int), AV.int IntKind.i64 (0 : Int),
          AV.int IntKind.i64 (0 : Int), AV.int IntKind.i64 (0 : Int),
          AV.row true [K.int IntKind.i64, K.int IntKind.i64] []],
      AV.int IntKind.i64 e'131],
  [])))
    (Q ((AV.tup
    [AV.agg
        [AV.int IntKind.i64 z107, AV.int IntKind.i64 z111, AV.int IntKind.i64 z115, AV.int IntKind.i64 k119,
          AV.int IntKind.i64 v120, AV.row true [K.int IntKind.i64, K.int IntKind.i64] []],
      AV.int IntKind.i64 (0 : Int)],
  []))))))) ∧
   ((∀ (rows130 : List (List AV)),
   ((rows130.length ≤ (15 : Nat)) →
   chk ((0 : Nat) + rows130.length ≤ rows130.length) (((Hyp ((0 : Int) ≤ n ∧
  n ≤ (1000 : Int) ∧
    ps.length ≤ (1000 : Nat) ∧ (List.take rows130.length (List.drop (0 : Nat) rows130)).length ≤ (1000000 : Nat))) ∧
   ((∀ (e'134 : Int),
   br (e'134 != (0 : Int))
    (Q ((AV.tup
    [AV.agg
        [AV.int IntKind.i64 (0 : Int), AV.int IntKind.i64 (0 : Int), AV.int IntKind.i64 (0 : Int),
          AV.int IntKind.i64 (0 : Int), AV.int IntKind.i64 (0 : Int),
          AV.row true [K.int IntKind.i64, K.int IntKind.i64] []],
      AV.int IntKind.i64 e'134],
  [])))
    (chk ((0 : Nat) + rows130.length ≤ rows130.length) (chk (((0 : Nat) + (List.take rows130.length (List.drop (0 : Nat) rows130)).length) * (16 : Nat) ≤ (140737488355328 : Nat)) (chk ((0 : Nat) + (List.take rows130.length (List.drop (0 : Nat) rows130)).length ≤ (9223372036854775807 : Nat)) (chk ((0 : Nat) + ((0 : Nat) + (List.take rows130.length (List.drop (0 : Nat) rows130)).length) ≤
  ([] ++ List.take rows130.length (List.drop (0 : Nat) rows130)).length) (Q ((AV.tup
    [AV.agg
        [AV.int IntKind.i64 z107, AV.int IntKind.i64 z111, AV.int IntKind.i64 z115, AV.int IntKind.i64 k119,
          AV.int IntKind.i64 v120,
          AV.row false [K.int IntKind.i64, K.int IntKind.i64]
            (List.take ((0 : Nat) + (List.take rows130.length (List.drop (0 : Nat) rows130)).length)
              (List.drop (0 : Nat) ([] ++ List.take rows130.length (List.drop (0 : Nat) rows130))))],
      AV.int IntKind.i64 (0 : Int)],
  []))))))))))))))))))))))))))))))))))))))))))))))))))))) := by kernel_rfl
theorem nfReadRa (n pi e g fi : Int) (nl : Bool) (ps : List (List AV)) (z1 z2 z3 z4 z5 k r sl pk pv : Int) (s : ByteArray) (Q : Ex → List AV → List AObj → Prop) : lpBody Tryz.prog H0 X2 6 6 102 10 [.ptr 0 0, .ptr 1 0, .ptr 2 0, .ptr 3 0] [.box [.int .i64 n, .int .i64 pi, .int .i64 e, .int .i64 g, .int .i64 fi, .row nl [.int .i64] ps], .box [.int .i64 z1, .int .i64 z2, .int .i64 z3, .int .i64 z4, .int .i64 z5, .nils], .box [.str s], .box [.int .i64 k, .int .i64 r, .int .i64 sl, .int .i64 pk, .int .i64 pv, .nils]] Q = (
br (!s.toList == (ByteArray.mk #[]).toList)
 (((Hyp ((10 : Nat) ≤ s.size)) ∧
 ((∀ (k102 : Int),
 (∀ (v103 : Int),
 (∀ (t104 : ByteArray),
 ((t104.size + (10 : Nat) = s.size) →
 Q (Ex.nrm) ([AV.ptr (0 : Nat) (0 : Nat), AV.ptr (1 : Nat) (0 : Nat), AV.ptr (2 : Nat) (0 : Nat), AV.ptr (3 : Nat) (0 : Nat)]) ([AObj.box
    [AV.int IntKind.i64 n, AV.int IntKind.i64 pi, AV.int IntKind.i64 e, AV.int IntKind.i64 g, AV.int IntKind.i64 fi,
      AV.row nl [K.int IntKind.i64] ps],
  AObj.box
    [AV.int IntKind.i64 z1, AV.int IntKind.i64 z2, AV.int IntKind.i64 z3, AV.int IntKind.i64 z4, AV.int IntKind.i64 z5,
      AV.nils],
  AObj.box [AV.str t104],
  AObj.box
    [AV.int IntKind.i64 k, AV.int IntKind.i64 r, AV.int IntKind.i64 sl, AV.int IntKind.i64 pk, AV.int IntKind.i64 pv,
      AV.sl (4 : Nat) (0 : Nat) (1 : Nat)],
  AObj.arr (2 : Nat) (29 : Nat) [K.int IntKind.i64, K.int IntKind.i64]
    [[AV.int IntKind.i64 k102, AV.int IntKind.i64 v103]]]))))))))
 (Q (Ex.exit (0 : Nat)) ([AV.ptr (0 : Nat) (0 : Nat), AV.ptr (1 : Nat) (0 : Nat), AV.ptr (2 : Nat) (0 : Nat)]) ([AObj.box
    [AV.int IntKind.i64 n, AV.int IntKind.i64 pi, AV.int IntKind.i64 e, AV.int IntKind.i64 g, AV.int IntKind.i64 fi,
      AV.row nl [K.int IntKind.i64] ps],
  AObj.box
    [AV.int IntKind.i64 z1, AV.int IntKind.i64 z2, AV.int IntKind.i64 z3, AV.int IntKind.i64 z4, AV.int IntKind.i64 z5,
      AV.nils],
  AObj.box
    [AV.int IntKind.i64 k, AV.int IntKind.i64 r, AV.int IntKind.i64 sl, AV.int IntKind.i64 pk, AV.int IntKind.i64 pv,
      AV.nils]]))) := by kernel_rfl
theorem nfReadRb (n pi e g fi : Int) (nl : Bool) (ps : List (List AV)) (z1 z2 z3 z4 z5 k r sl pk pv : Int) (s : ByteArray) (m : Nat) (rs : List (List AV)) (Q : Ex → List AV → List AObj → Prop) : lpBody Tryz.prog H0 X2 6 6 102 10 [.ptr 0 0, .ptr 1 0, .ptr 2 0, .ptr 3 0] [.box [.int .i64 n, .int .i64 pi, .int .i64 e, .int .i64 g, .int .i64 fi, .row nl [.int .i64] ps], .box [.int .i64 z1, .int .i64 z2, .int .i64 z3, .int .i64 z4, .int .i64 z5, .nils], .box [.str s], .box [.int .i64 k, .int .i64 r, .int .i64 sl, .int .i64 pk, .int .i64 pv, .sl 4 0 m], .arr 2 29 [.int .i64, .int .i64] rs] Q = (
br (!s.toList == (ByteArray.mk #[]).toList)
 (((Hyp ((10 : Nat) ≤ s.size)) ∧
 ((∀ (k102 : Int),
 (∀ (v103 : Int),
 (∀ (t104 : ByteArray),
 ((t104.size + (10 : Nat) = s.size) →
 chk (m = rs.length) (chk ((rs.length + (1 : Nat)) * (16 : Nat) ≤ (140737488355328 : Nat)) (chk (rs.length + (1 : Nat) ≤ (9223372036854775807 : Nat)) (Q (Ex.nrm) ([AV.ptr (0 : Nat) (0 : Nat), AV.ptr (1 : Nat) (0 : Nat), AV.ptr (2 : Nat) (0 : Nat), AV.ptr (3 : Nat) (0 : Nat)]) ([AObj.box
    [AV.int IntKind.i64 n, AV.int IntKind.i64 pi, AV.int IntKind.i64 e, AV.int IntKind.i64 g, AV.int IntKind.i64 fi,
      AV.row nl [K.int IntKind.i64] ps],
  AObj.box
    [AV.int IntKind.i64 z1, AV.int IntKind.i64 z2, AV.int IntKind.i64 z3, AV.int IntKind.i64 z4, AV.int IntKind.i64 z5,
      AV.nils],
  AObj.box [AV.str t104],
  AObj.box
    [AV.int IntKind.i64 k, AV.int IntKind.i64 r, AV.int IntKind.i64 sl, AV.int IntKind.i64 pk, AV.int IntKind.i64 pv,
      AV.sl (4 : Nat) (0 : Nat) (rs.length + (1 : Nat))],
  AObj.arr (2 : Nat) (29 : Nat) [K.int IntKind.i64, K.int IntKind.i64]
    (rs ++ [[AV.int IntKind.i64 k102, AV.int IntKind.i64 v103]])])))))))))))
 (Q (Ex.exit (0 : Nat)) ([AV.ptr (0 : Nat) (0 : Nat), AV.ptr (1 : Nat) (0 : Nat), AV.ptr (2 : Nat) (0 : Nat)]) ([AObj.box
    [AV.int IntKind.i64 n, AV.int IntKind.i64 pi, AV.int IntKind.i64 e, AV.int IntKind.i64 g, AV.int IntKind.i64 fi,
      AV.row nl [K.int IntKind.i64] ps],
  AObj.box
    [AV.int IntKind.i64 z1, AV.int IntKind.i64 z2, AV.int IntKind.i64 z3, AV.int IntKind.i64 z4, AV.int IntKind.i64 z5,
      AV.nils],
  AObj.box
    [AV.int IntKind.i64 k, AV.int IntKind.i64 r, AV.int IntKind.i64 sl, AV.int IntKind.i64 pk, AV.int IntKind.i64 pv,
      AV.sl (3 : Nat) (0 : Nat) m],
  AObj.arr (2 : Nat) (29 : Nat) [K.int IntKind.i64, K.int IntKind.i64] rs]))) := by kernel_rfl
theorem nfTextR (n pi e g fi : Int) (nl : Bool) (ps : List (List AV)) (k r sl pk pv : Int) (nl2 : Bool) (ec : List (List AV)) (Q : AV × List AObj → Prop) : inlW Tryz.prog H0 X2F 6 (InO Tryz.prog H0 X2F 6 6) 97 [cf n pi e g fi nl ps, .agg [.int .i64 k, .int .i64 r, .int .i64 sl, .int .i64 pk, .int .i64 pv, .row nl2 [.int .i64, .int .i64] ec]] [] Q = (
((Hyp ((1 : Int) ≤ (2 : Int) ∧ (2 : Int) ≤ (62 : Int))) ∧
((∀ (z101 : ByteArray),
(((↑z101.size : Int) = (2 : Int)) →
((Hyp ((1 : Int) ≤ (16 : Int) ∧ (16 : Int) ≤ (62 : Int))) ∧
((∀ (z104 : ByteArray),
(((↑z104.size : Int) = (16 : Int)) →
chk ((z101.size + z104.size).ble (9223372036854775807 : Nat) = true) (((Hyp ((1 : Int) ≤ (6 : Int) ∧ (6 : Int) ≤ (62 : Int))) ∧
((∀ (z108 : ByteArray),
(((↑z108.size : Int) = (6 : Int)) →
chk (((z101 ++ z104).size + z108.size).ble (9223372036854775807 : Nat) = true) (((Hyp ((1 : Int) ≤ (2 : Int) ∧ (2 : Int) ≤ (62 : Int))) ∧
((∀ (z112 : ByteArray),
(((↑z112.size : Int) = (2 : Int)) →
((Hyp ((1 : Int) ≤ (8 : Int) ∧ (8 : Int) ≤ (62 : Int))) ∧
((∀ (z115 : ByteArray),
(((↑z115.size : Int) = (8 : Int)) →
chk ((z112.size + z115.size).ble (9223372036854775807 : Nat) = true) (chk (((z101 ++ z104 ++ z108).size + (z112 ++ z115).size).ble (9223372036854775807 : Nat) = true) (br ((bytesRows (z101 ++ z104 ++ z108 ++ (z112 ++ z115)).data.toList).isEmpty)
 (False)
 (chk ((bytesRows (z101 ++ z104 ++ z108 ++ (z112 ++ z115)).data.toList).length * (1 : Nat) ≤ (140737488355328 : Nat)) (chk ((bytesRows (z101 ++ z104 ++ z108 ++ (z112 ++ z115)).data.toList).length ≤ (9223372036854775807 : Nat)) (((Hyp ((0 : Int) ≤ (0 : Int) ∧
  (0 : Int) ≤ (↑ec.length : Int) ∧
    (↑ec.length : Int) = (↑ec.length : Int) ∧
      ec.length ≤ (30 : Nat) ∧
        (↑(bytesRows (z101 ++ z104 ++ z108 ++ (z112 ++ z115)).data.toList).length : Int) = (34 : Int) ∧
          (bytesRows (z101 ++ z104 ++ z108 ++ (z112 ++ z115)).data.toList).length =
              (bytesRows (z101 ++ z104 ++ z108 ++ (z112 ++ z115)).data.toList).length ∧
            s_bytesOk (bytesRows (z101 ++ z104 ++ z108 ++ (z112 ++ z115)).data.toList) = true)) ∧
 ((∀ (rows'123 : List (List AV)),
 (∀ (m'124 : Nat),
 ((rows'123.length = m'124) →
 (((0 : Nat) < m'124) →
 ((m'124 ≤ (334 : Nat)) →
 ((s_bytesOk rows'123 = true) →
 ((Hyp (m'124 = rows'123.length ∧ (0 : Nat) < m'124 ∧ s_bytesOk rows'123 = true)) ∧
 (((Hyp ((ByteArray.mk ((rowsBytes rows'123).toArray)).size ≤ (1000000 : Nat))) ∧
 ((∀ (z131 : ByteArray),
 ((z131.size = (ByteArray.mk ((rowsBytes rows'123).toArray)).size + (17 : Nat)) →
 Q ((AV.str z131, [])))))))))))))))))))))))))))))))))))))))))))) := by kernel_rfl
theorem nfTextRa (nl2 : Bool) (ec rows : List (List AV)) (len i : Int) (m : Nat) (Q : Ex → List AV → List AObj → Prop) : lpBody Tryz.prog H0 X2 6 6 97 4 [.ptr 0 0, .row nl2 [.int .i64, .int .i64] ec, .int .i64 len, .int .i64 i] [.tb 116 [.ptr 0 0, .sl 1 0 m], .arr 2 5 [.int .u8] rows] Q = (
br (decide (i < len))
 (chk ((0 : Int) ≤ i ∧ i < (↑ec.length : Int)) (((Hyp ((1 : Int) ≤ (2 : Int) ∧ (2 : Int) ≤ (62 : Int))) ∧
 ((∀ (z103 : ByteArray),
 (((↑z103.size : Int) = (2 : Int)) →
 ((Hyp ((1 : Int) ≤ (8 : Int) ∧ (8 : Int) ≤ (62 : Int))) ∧
 ((∀ (z106 : ByteArray),
 (((↑z106.size : Int) = (8 : Int)) →
 chk ((z103.size + z106.size).ble (9223372036854775807 : Nat) = true) (chk (m = rows.length) (chk ((rows.length + (bytesRows (z103 ++ z106).data.toList).length) * (1 : Nat) ≤ (140737488355328 : Nat)) (chk (rows.length + (bytesRows (z103 ++ z106).data.toList).length ≤ (9223372036854775807 : Nat)) (Q (Ex.nrm) ([AV.ptr (0 : Nat) (0 : Nat), AV.row nl2 [K.int IntKind.i64, K.int IntKind.i64] ec, AV.int IntKind.i64 len,
  AV.int IntKind.i64 (IntKind.i64.wrap (i + (1 : Int)))]) ([AObj.tb (116 : Nat)
    [AV.ptr (0 : Nat) (0 : Nat),
      AV.sl (1 : Nat) (0 : Nat) (rows.length + (bytesRows (z103 ++ z106).data.toList).length)],
  AObj.arr (2 : Nat) (5 : Nat) [K.int IntKind.u8] (rows ++ bytesRows (z103 ++ z106).data.toList)])))))))))))))))
 (Q (Ex.exit (0 : Nat)) ([AV.ptr (0 : Nat) (0 : Nat)]) ([AObj.tb (116 : Nat) [AV.ptr (0 : Nat) (0 : Nat), AV.sl (1 : Nat) (0 : Nat) m],
  AObj.arr (2 : Nat) (5 : Nat) [K.int IntKind.u8] rows]))) := by kernel_rfl
theorem nfToldR (n pi e g fi ro sl : Int) (nl : Bool) (ps : List (List AV)) (base : ByteArray) (Q : AV × List AObj → Prop) : inlW Tryz.prog H0 X3L 6 (InO Tryz.prog H0 X3L 6 6) 96 [cf n pi e g fi nl ps, .int .i64 ro, .int .i64 sl, .str base] [] Q = (
((Hyp ((0 : Int) ≤ n ∧ n ≤ (12 : Int) ∧ ps.length ≤ (3 : Nat) ∧ base.size ≤ (1000000 : Nat))) ∧
((∀ (k'101 : Int),
(∀ (r'102 : Int),
(∀ (sl'103 : Int),
(∀ (pk'104 : Int),
(∀ (pv'105 : Int),
(∀ (nl'106 : Bool),
(∀ (rows107 : List (List AV)),
(∀ (e'108 : Int),
((rows107.length ≤ (15 : Nat)) →
br (e'108 == (0 : Int))
 (br (k'101 == (3 : Int))
  (Q ((AV.agg
    [AV.int IntKind.i64 k'101, AV.int IntKind.i64 r'102, AV.int IntKind.i64 sl'103, AV.int IntKind.i64 pk'104,
      AV.int IntKind.i64 pv'105, AV.row nl'106 [K.int IntKind.i64, K.int IntKind.i64] rows107],
  [])))
  ((∀ (z112 : Int),
  ((z112 =
  IntKind.i64.wrap
    (↑(BitVec.ofInt IntKind.i64.bits (IntKind.i64.wrap (fi + ro)) &&&
            BitVec.ofInt IntKind.i64.bits (65535 : Int)).toNat :
      Int)) →
  br (decide (sl < n))
   (chk ((0 : Int) ≤ IntKind.i64.wrap (n + (↑ps.length : Int)) ∧
  IntKind.i64.wrap (n + (↑ps.length : Int)) ≤ IntKind.i64.wrap (n + (↑ps.length : Int)) ∧
    (16 : Int) * IntKind.i64.wrap (n + (↑ps.length : Int)) ≤ (140737488355328 : Int)) (chk (IntKind.i64.wrap (n + (↑ps.length : Int)) ≤ (9223372036854775807 : Int)) (((Hyp ((0 : Int) ≤ (0 : Int) ∧
  (0 : Int) ≤ (↑(IntKind.i64.wrap (n + (↑ps.length : Int))).toNat : Int) ∧
    (↑(IntKind.i64.wrap (n + (↑ps.length : Int))).toNat : Int) =
        (↑(IntKind.i64.wrap (n + (↑ps.length : Int))).toNat : Int) ∧
      (List.replicate (IntKind.i64.wrap (n + (↑ps.length : Int))).toNat
              [AV.int IntKind.i64 (0 : Int), AV.int IntKind.i64 (0 : Int)]).length =
          (IntKind.i64.wrap (n + (↑ps.length : Int))).toNat ∧
        (IntKind.i64.wrap (n + (↑ps.length : Int))).toNat ≤ (15 : Nat))) ∧
   ((∀ (rows118 : List (List AV)),
   ((rows118.length = (IntKind.i64.wrap (n + (↑ps.length : Int))).toNat) →
   chk ((0 : Nat) + (IntKind.i64.wrap (n + (↑ps.length : Int))).toNat ≤ rows118.length) (Q ((AV.agg
    [AV.int IntKind.i64 (3 : Int), AV.int IntKind.i64 z112, AV.int IntKind.i64 sl, AV.int IntKind.i64 (1 : Int),
      AV.int IntKind.i64 (0 : Int),
      AV.row false [K.int IntKind.i64, K.int IntKind.i64]
        (List.take (IntKind.i64.wrap (n + (↑ps.length : Int))).toNat (List.drop (0 : Nat) rows118))],
  []))))))))))
   (Q ((AV.agg
    [AV.int IntKind.i64 (3 : Int), AV.int IntKind.i64 z112, AV.int IntKind.i64 sl, AV.int IntKind.i64 (1 : Int),
      AV.int IntKind.i64 (0 : Int), AV.row true [K.int IntKind.i64, K.int IntKind.i64] []],
  [])))))))
 ((∀ (z111 : Int),
 ((z111 =
  IntKind.i64.wrap
    (↑(BitVec.ofInt IntKind.i64.bits (IntKind.i64.wrap (fi + ro)) &&&
            BitVec.ofInt IntKind.i64.bits (65535 : Int)).toNat :
      Int)) →
 br (decide (sl < n))
  (chk ((0 : Int) ≤ IntKind.i64.wrap (n + (↑ps.length : Int)) ∧
  IntKind.i64.wrap (n + (↑ps.length : Int)) ≤ IntKind.i64.wrap (n + (↑ps.length : Int)) ∧
    (16 : Int) * IntKind.i64.wrap (n + (↑ps.length : Int)) ≤ (140737488355328 : Int)) (chk (IntKind.i64.wrap (n + (↑ps.length : Int)) ≤ (9223372036854775807 : Int)) (((Hyp ((0 : Int) ≤ (0 : Int) ∧
  (0 : Int) ≤ (↑(IntKind.i64.wrap (n + (↑ps.length : Int))).toNat : Int) ∧
    (↑(IntKind.i64.wrap (n + (↑ps.length : Int))).toNat : Int) =
        (↑(IntKind.i64.wrap (n + (↑ps.length : Int))).toNat : Int) ∧
      (List.replicate (IntKind.i64.wrap (n + (↑ps.length : Int))).toNat
              [AV.int IntKind.i64 (0 : Int), AV.int IntKind.i64 (0 : Int)]).length =
          (IntKind.i64.wrap (n + (↑ps.length : Int))).toNat ∧
        (IntKind.i64.wrap (n + (↑ps.length : Int))).toNat ≤ (15 : Nat))) ∧
  ((∀ (rows117 : List (List AV)),
  ((rows117.length = (IntKind.i64.wrap (n + (↑ps.length : Int))).toNat) →
  chk ((0 : Nat) + (IntKind.i64.wrap (n + (↑ps.length : Int))).toNat ≤ rows117.length) (Q ((AV.agg
    [AV.int IntKind.i64 (3 : Int), AV.int IntKind.i64 z111, AV.int IntKind.i64 sl, AV.int IntKind.i64 (1 : Int),
      AV.int IntKind.i64 (0 : Int),
      AV.row false [K.int IntKind.i64, K.int IntKind.i64]
        (List.take (IntKind.i64.wrap (n + (↑ps.length : Int))).toNat (List.drop (0 : Nat) rows117))],
  []))))))))))
  (Q ((AV.agg
    [AV.int IntKind.i64 (3 : Int), AV.int IntKind.i64 z111, AV.int IntKind.i64 sl, AV.int IntKind.i64 (1 : Int),
      AV.int IntKind.i64 (0 : Int), AV.row true [K.int IntKind.i64, K.int IntKind.i64] []],
  [])))))))))))))))))) := by kernel_rfl
theorem nfToldRa (z1 z2 z3 z4 z5 k r sl pk pv len i : Int) (m : Nat) (rs : List (List AV)) (Q : Ex → List AV → List AObj → Prop) : lpBody Tryz.prog H0 X3 6 6 96 8 [.ptr 0 0, .ptr 1 0, .int .i64 len, .int .i64 i] [.box [.int .i64 z1, .int .i64 z2, .int .i64 z3, .int .i64 z4, .int .i64 z5, .nils], .box [.int .i64 k, .int .i64 r, .int .i64 sl, .int .i64 pk, .int .i64 pv, .sl 2 0 m], .arr 2 29 [.int .i64, .int .i64] rs] Q = (
br (decide (i < len))
 (chk ((0 : Int) ≤ i ∧ i < (↑m : Int)) (chk ((0 : Nat) + i.toNat < rs.length) (Q (Ex.nrm) ([AV.ptr (0 : Nat) (0 : Nat), AV.ptr (1 : Nat) (0 : Nat), AV.int IntKind.i64 len,
  AV.int IntKind.i64 (IntKind.i64.wrap (i + (1 : Int)))]) ([AObj.box
    [AV.int IntKind.i64 z1, AV.int IntKind.i64 z2, AV.int IntKind.i64 z3, AV.int IntKind.i64 z4, AV.int IntKind.i64 z5,
      AV.nils],
  AObj.box
    [AV.int IntKind.i64 k, AV.int IntKind.i64 r, AV.int IntKind.i64 sl, AV.int IntKind.i64 pk, AV.int IntKind.i64 pv,
      AV.sl (2 : Nat) (0 : Nat) m],
  AObj.arr (2 : Nat) (29 : Nat) [K.int IntKind.i64, K.int IntKind.i64]
    (rs.set ((0 : Nat) + i.toNat)
      (AV.int IntKind.i64 (1 : Int) :: List.drop ((0 : Nat) + (1 : Nat)) (rs.getD ((0 : Nat) + i.toNat) [])))]))))
 (Q (Ex.exit (0 : Nat)) ([AV.ptr (0 : Nat) (0 : Nat), AV.ptr (1 : Nat) (0 : Nat)]) ([AObj.box
    [AV.int IntKind.i64 z1, AV.int IntKind.i64 z2, AV.int IntKind.i64 z3, AV.int IntKind.i64 z4, AV.int IntKind.i64 z5,
      AV.nils],
  AObj.box
    [AV.int IntKind.i64 k, AV.int IntKind.i64 r, AV.int IntKind.i64 sl, AV.int IntKind.i64 pk, AV.int IntKind.i64 pv,
      AV.sl (2 : Nat) (0 : Nat) m],
  AObj.arr (2 : Nat) (29 : Nat) [K.int IntKind.i64, K.int IntKind.i64] rs]))) := by kernel_rfl
theorem nfDoneR (n pi e g fi how m ro sl : Int) (nl : Bool) (rs : List (List AV)) (text base : ByteArray) (Q : AV × List AObj → Prop) : inlW Tryz.prog H0 X4 6 (InO Tryz.prog H0 X4 6 6) 87 [cf n pi e g fi nl rs, .agg [.int .i64 how, .int .i64 m, .str text], .int .i64 ro, .int .i64 sl, .str base] [] Q = (
br (s_rem how (7 : Int) == (1 : Int))
 (Q ((AV.str base, [])))
 (br (s_rem how (7 : Int) == (2 : Int))
  (chk (IntKind.i64.wrap ((↑base.size : Int) + (1 : Int)) ≤ (4611686018427387904 : Int)) (br (decide (IntKind.i64.wrap ((↑base.size : Int) + (1 : Int)) ≤ (0 : Int)))
   (False)
   (br (decide (IntKind.i64.wrap ((↑base.size : Int) + (1 : Int)) = (1 : Int)))
    (Q ((AV.str (base.extract (0 : Nat) (0 : Nat)), [])))
    (chk ((0 : Int) ≤ s_rem m (IntKind.i64.wrap ((↑base.size : Int) + (1 : Int))) ∧
  s_rem m (IntKind.i64.wrap ((↑base.size : Int) + (1 : Int))) ≤ (↑base.size : Int)) (Q ((AV.str (base.extract (0 : Nat) (s_rem m (IntKind.i64.wrap ((↑base.size : Int) + (1 : Int)))).toNat), [])))))))
  (br (s_rem how (7 : Int) == (3 : Int))
   (((Hyp ((↑text.size : Int) ≤ (4611686018427387904 : Int))) ∧
   (Q ((AV.str (s_clean text), [])))))
   (br (s_rem how (7 : Int) == (4 : Int))
    (chk ((↑base.size : Int) ≤ (4611686018427387904 : Int)) (br (decide ((↑base.size : Int) ≤ (0 : Int)))
     (((Hyp (base.size ≤ (1000000 : Nat))) ∧
     ((∀ (z107 : ByteArray),
     ((z107.size = base.size) →
     ((Hyp ((↑z107.size : Int) ≤ (4611686018427387904 : Int))) ∧
     (Q ((AV.str (s_clean z107), [])))))))))
     (br (decide ((↑base.size : Int) = (1 : Int)))
      (((Hyp (base.size ≤ (1000000 : Nat))) ∧
      ((∀ (z108 : ByteArray),
      ((z108.size = base.size) →
      ((Hyp ((↑z108.size : Int) ≤ (4611686018427387904 : Int))) ∧
      (Q ((AV.str (s_clean z108), [])))))))))
      (((Hyp (base.size ≤ (1000000 : Nat))) ∧
      ((∀ (z108 : ByteArray),
      ((z108.size = base.size) →
      ((Hyp ((↑z108.size : Int) ≤ (4611686018427387904 : Int))) ∧
      (Q ((AV.str (s_clean z108), []))))))))))))
    (br (s_rem how (7 : Int) == (5 : Int))
     (((Hyp (s_confOk n pi e g fi (List.map (fun r => (r.getD (0 : Nat) AV.gone).toI) rs) = true ∧ base.size ≤ (1000000 : Nat))) ∧
     ((∀ (k'106 : Int),
     (∀ (r'107 : Int),
     (∀ (sl'108 : Int),
     (∀ (pk'109 : Int),
     (∀ (pv'110 : Int),
     (∀ (nl'111 : Bool),
     (∀ (rows112 : List (List AV)),
     ((rows112.length ≤ (15 : Nat)) →
     ((Hyp (rows112.length ≤ (30 : Nat))) ∧
     ((∀ (z115 : ByteArray),
     ((z115.size ≤ (1000 : Nat)) →
     Q ((AV.str z115, [])))))))))))))))))
     (br (s_rem how (7 : Int) == (6 : Int))
      (((Hyp (s_confOk n pi e g fi (List.map (fun r => (r.getD (0 : Nat) AV.gone).toI) rs) = true ∧ base.size ≤ (1000000 : Nat))) ∧
      ((∀ (k'107 : Int),
      (∀ (r'108 : Int),
      (∀ (sl'109 : Int),
      (∀ (pk'110 : Int),
      (∀ (pv'111 : Int),
      (∀ (nl'112 : Bool),
      (∀ (rows113 : List (List AV)),
      ((rows113.length ≤ (15 : Nat)) →
      ((Hyp ((0 : Int) ≤ (↑rows113.length : Int) ∧ (↑rows113.length : Int) ≤ (1000 : Int))) ∧
      ((∀ (rows116 : List (List AV)),
      ((rows116 =
  List.replicate (↑rows113.length : Int).toNat [AV.int IntKind.i64 (2 : Int), AV.int IntKind.i64 (s_rem m (256 : Int))]) →
      ((Hyp (rows116.length ≤ (30 : Nat))) ∧
      ((∀ (z119 : ByteArray),
      ((z119.size ≤ (1000 : Nat)) →
      Q ((AV.str z119, [])))))))))))))))))))))
      (Q ((AV.str (ByteArray.mk #[]), []))))))))) := by kernel_rfl
theorem nfEmitRn (n pi e g fi kind at_ fr to_ ro sl fm dst : Int) (nl nl2 : Bool) (rs acts : List (List AV)) (base : ByteArray) (Q : AV × List AObj → Prop) : inlW Tryz.prog H0 X4d 6 (InO Tryz.prog H0 X4d 6 6) 72 [cf n pi e g fi nl rs, .agg [.int .i64 kind, .int .i64 at_, .int .i64 fr, .int .i64 to_, .row nl2 [.int .i64, .int .i64, .str] acts, AV.nils], .int .i64 ro, .int .i64 sl, .int .i64 fm, .int .i64 dst, .str base] [] Q = (
((Hyp (s_confOk n pi e g fi (List.map (fun r => (r.getD (0 : Nat) AV.gone).toI) rs) = true)) ∧
(((Hyp ((0 : Int) < n ∧ n ≤ (1000 : Int))) ∧
(br (!s_hit n kind at_ fm dst)
 (Q ((AV.str base, [])))
 (br (decide (ro ≥ to_))
  (Q ((AV.str base, [])))
  (br (decide (ro < fr))
   (Q ((AV.str (ByteArray.mk #[]), [])))
   (chk ((↑acts.length : Int) ≤ (4611686018427387904 : Int)) (br (decide ((↑acts.length : Int) ≤ (0 : Int)))
    (Q ((AV.str (ByteArray.mk #[]), [])))
    (br (decide ((↑acts.length : Int) = (1 : Int)))
     (chk ((0 : Int) ≤ (0 : Int) ∧ (0 : Int) < (↑acts.length : Int)) (((Hyp (s_confOk n pi e g fi (List.map (fun r => (r.getD (0 : Nat) AV.gone).toI) rs) = true ∧
  base.size ≤ (1000000 : Nat) ∧ ((acts.getD (0 : Nat) []).getD (2 : Nat) AV.gone).toS.size ≤ (1000000 : Nat))) ∧
     ((∀ (z110 : ByteArray),
     ((z110.size ≤ (1000000 : Nat)) →
     Q ((AV.str z110, []))))))))
     (br (decide
  (s_rem
      (IntKind.i64.wrap
        (IntKind.i64.wrap (IntKind.i64.wrap ((17 : Int) * ro) + IntKind.i64.wrap ((5 : Int) * sl)) + dst))
      (↑acts.length : Int) <
    (0 : Int)))
      (Q ((AV.str (ByteArray.mk #[]), [])))
      (chk ((0 : Int) ≤
    s_rem
      (IntKind.i64.wrap
        (IntKind.i64.wrap (IntKind.i64.wrap ((17 : Int) * ro) + IntKind.i64.wrap ((5 : Int) * sl)) + dst))
      (↑acts.length : Int) ∧
  s_rem
      (IntKind.i64.wrap
        (IntKind.i64.wrap (IntKind.i64.wrap ((17 : Int) * ro) + IntKind.i64.wrap ((5 : Int) * sl)) + dst))
      (↑acts.length : Int) <
    (↑acts.length : Int)) (((Hyp (s_confOk n pi e g fi (List.map (fun r => (r.getD (0 : Nat) AV.gone).toI) rs) = true ∧
  base.size ≤ (1000000 : Nat) ∧
    ((acts.getD
                (s_rem
                    (IntKind.i64.wrap
                      (IntKind.i64.wrap (IntKind.i64.wrap ((17 : Int) * ro) + IntKind.i64.wrap ((5 : Int) * sl)) + dst))
                    (↑acts.length : Int)).toNat
                []).getD
            (2 : Nat) AV.gone).toS.size ≤
      (1000000 : Nat))) ∧
      ((∀ (z111 : ByteArray),
      ((z111.size ≤ (1000000 : Nat)) →
      Q ((AV.str z111, []))))))))))))))))))) := by kernel_rfl
theorem nfEmitRr (n pi e g fi kind at_ fr to_ ro sl fm dst : Int) (nl nl2 : Bool) (rs acts : List (List AV)) (base : ByteArray) (nl3 : Bool) (sh3 : List K) (ds : List (List AV)) (Q : AV × List AObj → Prop) : inlW Tryz.prog H0 X4d 6 (InO Tryz.prog H0 X4d 6 6) 72 [cf n pi e g fi nl rs, .agg [.int .i64 kind, .int .i64 at_, .int .i64 fr, .int .i64 to_, .row nl2 [.int .i64, .int .i64, .str] acts, AV.row nl3 sh3 ds], .int .i64 ro, .int .i64 sl, .int .i64 fm, .int .i64 dst, .str base] [] Q = (
((Hyp (s_confOk n pi e g fi (List.map (fun r => (r.getD (0 : Nat) AV.gone).toI) rs) = true)) ∧
(((Hyp ((0 : Int) < n ∧ n ≤ (1000 : Int))) ∧
(br (!s_hit n kind at_ fm dst)
 (Q ((AV.str base, [])))
 (br (decide (ro ≥ to_))
  (Q ((AV.str base, [])))
  (br (decide (ro < fr))
   (Q ((AV.str (ByteArray.mk #[]), [])))
   (chk ((↑acts.length : Int) ≤ (4611686018427387904 : Int)) (br (decide ((↑acts.length : Int) ≤ (0 : Int)))
    (Q ((AV.str (ByteArray.mk #[]), [])))
    (br (decide ((↑acts.length : Int) = (1 : Int)))
     (chk ((0 : Int) ≤ (0 : Int) ∧ (0 : Int) < (↑acts.length : Int)) (((Hyp (s_confOk n pi e g fi (List.map (fun r => (r.getD (0 : Nat) AV.gone).toI) rs) = true ∧
  base.size ≤ (1000000 : Nat) ∧ ((acts.getD (0 : Nat) []).getD (2 : Nat) AV.gone).toS.size ≤ (1000000 : Nat))) ∧
     ((∀ (z110 : ByteArray),
     ((z110.size ≤ (1000000 : Nat)) →
     Q ((AV.str z110, []))))))))
     (br (decide
  (s_rem
      (IntKind.i64.wrap
        (IntKind.i64.wrap (IntKind.i64.wrap ((17 : Int) * ro) + IntKind.i64.wrap ((5 : Int) * sl)) + dst))
      (↑acts.length : Int) <
    (0 : Int)))
      (Q ((AV.str (ByteArray.mk #[]), [])))
      (chk ((0 : Int) ≤
    s_rem
      (IntKind.i64.wrap
        (IntKind.i64.wrap (IntKind.i64.wrap ((17 : Int) * ro) + IntKind.i64.wrap ((5 : Int) * sl)) + dst))
      (↑acts.length : Int) ∧
  s_rem
      (IntKind.i64.wrap
        (IntKind.i64.wrap (IntKind.i64.wrap ((17 : Int) * ro) + IntKind.i64.wrap ((5 : Int) * sl)) + dst))
      (↑acts.length : Int) <
    (↑acts.length : Int)) (((Hyp (s_confOk n pi e g fi (List.map (fun r => (r.getD (0 : Nat) AV.gone).toI) rs) = true ∧
  base.size ≤ (1000000 : Nat) ∧
    ((acts.getD
                (s_rem
                    (IntKind.i64.wrap
                      (IntKind.i64.wrap (IntKind.i64.wrap ((17 : Int) * ro) + IntKind.i64.wrap ((5 : Int) * sl)) + dst))
                    (↑acts.length : Int)).toNat
                []).getD
            (2 : Nat) AV.gone).toS.size ≤
      (1000000 : Nat))) ∧
      ((∀ (z111 : ByteArray),
      ((z111.size ≤ (1000000 : Nat)) →
      Q ((AV.str z111, []))))))))))))))))))) := by kernel_rfl
end Go.Proofs.YtiemjcchlfbglaaGreatE
/- What a locus emits, roughly: the specs hold. -/
namespace Go.Proofs.YtiemjcchlfbglaaGreatE
open Go
set_option linter.unusedVariables false
set_option linter.unusedSimpArgs false
set_option maxRecDepth 100000

theorem okLReadR : OkLp Tryz.prog H0 102 10 lReadR := by
  refine okLp_of (U := 6) (k := 6) okX2 lReadR (fun _ h => match h with | _ :: _ :: .box [.str s] :: _ => s.size | _ => 0) fun vals h Q hl => ?_
  unfold lReadR at hl
  split at hl
  · rename_i n pi e g fi nl ps z1 z2 z3 z4 z5 s k r sl pk pv
    obtain ⟨⟨q, h1, h2⟩, hq1, hq2⟩ := hyp_iff.1 hl
    refine to (nfReadRa ..) (br_intro (fun c => ?_) fun c => hq1)
    have h0 : q ≠ 0 := fun h0 => by
      have : s.toList = (⟨#[]⟩ : ByteArray).toList := by
        rw [show s = (⟨#[]⟩ : ByteArray) from by apply ByteArray.ext; apply Array.eq_empty_of_size_eq_zero; show s.size = 0; omega]
      rw [this] at c
      simp at c
    refine hyp_iff.2 ⟨by omega, fun k1 v1 t ht => ⟨by show t.size < s.size; omega, ⟨rfl, q - 1, by omega, by omega⟩, hq2⟩⟩
  · rename_i n pi e g fi nl ps z1 z2 z3 z4 z5 s k r sl pk pv m rs
    obtain ⟨⟨hm, q, h1, h2⟩, hq2⟩ := hl
    refine to (nfReadRb ..) (br_intro (fun c => ?_) fun c => ?_)
    · have h0 : q ≠ 0 := fun h0 => by
        have : s.toList = (⟨#[]⟩ : ByteArray).toList := by
          rw [show s = (⟨#[]⟩ : ByteArray) from by apply ByteArray.ext; apply Array.eq_empty_of_size_eq_zero; show s.size = 0; omega]
        rw [this] at c
        simp at c
      refine hyp_iff.2 ⟨by omega, fun k1 v1 t ht => ?_⟩
      rw [chk_iff, chk_iff, chk_iff]
      exact ⟨by omega, by omega, by omega, by show t.size < s.size; omega, ⟨by rw [List.length_append]; rfl, q - 1, by omega, by omega⟩, hq2⟩
    · have := hq2 rs (by omega)
      rw [hm] at this
      exact this
  · exact hl.elim
theorem okLTextR : OkLp Tryz.prog H0 97 4 lTextR := by
  refine okLp_of (U := 6) (k := 6) okX2 lTextR (fun vals _ => match vals with | [_, _, .int _ len, .int _ i] => (len - i).toNat | _ => 0) fun vals h Q hl => ?_
  unfold lTextR at hl
  split at hl
  · rename_i nl2 ec len i m rows
    obtain ⟨⟨h0, h1, h2, h3, h4, h5, h6⟩, hq⟩ := hyp_iff.1 hl
    refine to (nfTextRa ..) (br_intro (fun c => ?_) fun c => ?_)
    · have c := of_decide_eq_true c
      have w : IntKind.i64.wrap (i + 1) = i + 1 := wr (by omega) (by omega)
      rw [chk_iff]
      refine ⟨⟨h0, by omega⟩, hyp_iff.2 ⟨by omega, fun a ha => hyp_iff.2 ⟨by omega, fun b hb => ?_⟩⟩⟩
      have hl : (bytesRows (a ++ b).data.toList).length = 10 := by
        rw [bytesR_len]
        show (a ++ b).size = 10
        rw [ByteArray.size_append]; omega
      rw [chk_iff, chk_iff, chk_iff, chk_iff, hl, w]
      refine ⟨bleR (by omega), by omega, by omega, by omega, by show (len - (i + 1)).toNat < (len - i).toNat; omega, hyp_iff.2 ⟨⟨by omega, by omega, h2, h3, by omega, by rw [List.length_append, hl], ?_⟩, hq⟩⟩
      unfold s_bytesOk at h6 ⊢
      rw [List.all_append, h6, Bool.true_and]
      exact bytes_ok _
    · have c := of_decide_eq_false c
      exact hq _ _ h5 (by omega) (by omega) h6
  · exact hl.elim
theorem okX2F : OkSp Tryz.prog H0 X2F := ⟨okX2.fn, okLReadR, okLTextR, trivial⟩
theorem okReadR : OkS Tryz.prog H0 102 sReadR := by
  intro args h Q hq
  unfold sReadR at hq
  split at hq
  · rename_i n pi e g fi nl ps s
    obtain ⟨⟨h1, h2, h3, h4⟩, hq⟩ := hyp_iff.1 hq
    refine in_ok (S := X2F) (U := 6) (k := 6) okX2F (to (nfReadR ..) ?_)
    have h0 : ∀ e : Int, Q (.tup [.agg [.int .i64 0, .int .i64 0, .int .i64 0, .int .i64 0, .int .i64 0, .row true [.int .i64, .int .i64] []], .int .i64 e], []) := fun e => hq _ _ _ _ _ _ _ _ (Nat.zero_le _)
    refine hyp_iff.2 ⟨h4, fun z e1 hz => br_intro (fun _ => h0 _) fun _ => br_intro (fun _ => h0 _) fun c => ?_⟩
    have c := of_decide_eq_false c
    have tail : ∀ (a b c d f : Int) (t : ByteArray), (((Hyp ((0 : Int) ≤ n ∧ n ≤ (1000 : Int) ∧ ps.length ≤ (1000 : Nat) ∧ (0 : Nat) ≤ (1000000 : Nat))) ∧
      (∀ (e' : Int), br (e' != (0 : Int)) (Q (.tup [.agg [.int .i64 0, .int .i64 0, .int .i64 0, .int .i64 0, .int .i64 0, .row true [.int .i64, .int .i64] []], .int .i64 e'], []))
        (Q (.tup [.agg [.int .i64 a, .int .i64 b, .int .i64 c, .int .i64 d, .int .i64 f, .row true [.int .i64, .int .i64] []], .int .i64 0], []))))) := fun a b c d f t =>
      hyp_iff.2 ⟨⟨h1, by omega, by omega, by omega⟩, fun e' => br_intro (fun _ => h0 _) fun _ => hq _ _ _ _ _ _ _ _ (Nat.zero_le _)⟩
    have hps : n ≤ 1000 ∧ ps.length ≤ 1000 := ⟨by omega, by omega⟩
    refine hyp_iff.2 ⟨by omega, fun a1 t1 e1 => hyp_iff.2 ⟨by omega, fun a2 t2 e2 => hyp_iff.2 ⟨by omega, fun a3 t3 e3 => hyp_iff.2 ⟨by omega, fun a4 a5 t4 e4 => hyp_iff.2 ⟨⟨h1, hps⟩, ?_, ?_⟩⟩⟩⟩⟩
    · refine br_intro (fun _ => h0 _) fun c1 => ?_
      have c1 : (t4.size : Int) = 0 := by simpa using c1
      refine hyp_iff.2 ⟨⟨0, by omega, by omega⟩, tail _ _ _ _ _ t4, fun rows hr => ?_⟩
      simp only [chk_iff, hyp_iff, List.drop_zero, List.nil_append, Nat.zero_add, List.take_length]
      exact ⟨Nat.le_refl _, ⟨h1, hps.1, hps.2, by omega⟩, fun e' => br_intro (fun _ => h0 _) fun _ => ⟨Nat.le_refl _, by omega, by omega, Nat.le_refl _, hq _ _ _ _ _ _ _ _ hr⟩⟩
    · intro m hm
      rw [wr (x := 10 * m) (by omega) (by omega)]
      refine br_intro (fun _ => h0 _) fun c1 => ?_
      have c1 : (t4.size : Int) = 10 * m := by simpa using c1
      refine hyp_iff.2 ⟨⟨m.toNat, by omega, by omega⟩, tail _ _ _ _ _ t4, fun rows hr => ?_⟩
      simp only [chk_iff, hyp_iff, List.drop_zero, List.nil_append, Nat.zero_add, List.take_length]
      exact ⟨Nat.le_refl _, ⟨h1, hps.1, hps.2, by omega⟩, fun e' => br_intro (fun _ => h0 _) fun _ => ⟨Nat.le_refl _, by omega, by omega, Nat.le_refl _, hq _ _ _ _ _ _ _ _ hr⟩⟩
  · exact hq.elim
theorem okTextR : OkS Tryz.prog H0 97 sTextR := by
  intro args h Q hq
  unfold sTextR at hq
  split at hq
  · rename_i n pi e g fi nl ps k r sl pk pv nl2 ec
    obtain ⟨h1, hq⟩ := hyp_iff.1 hq
    refine in_ok (S := X2F) (U := 6) (k := 6) okX2F (to (nfTextR ..) ?_)
    refine hyp_iff.2 ⟨by omega, fun a ha => hyp_iff.2 ⟨by omega, fun b hb => ?_⟩⟩
    rw [chk_iff]
    refine ⟨bleR (by omega), hyp_iff.2 ⟨by omega, fun c hc => ?_⟩⟩
    rw [chk_iff]
    refine ⟨bleR (by rw [ByteArray.size_append]; omega), hyp_iff.2 ⟨by omega, fun d hd => hyp_iff.2 ⟨by omega, fun f hf => ?_⟩⟩⟩
    have hl : (bytesRows (a ++ b ++ c ++ (d ++ f)).data.toList).length = 34 := by
      rw [bytesR_len]
      show (a ++ b ++ c ++ (d ++ f)).size = 34
      simp only [ByteArray.size_append]; omega
    rw [chk_iff, chk_iff]
    refine ⟨bleR (by omega), bleR (by simp only [ByteArray.size_append]; omega), br_intro (fun c1 => ?_) fun _ => ?_⟩
    · rw [List.isEmpty_iff] at c1
      rw [c1] at hl
      cases hl
    · rw [chk_iff, chk_iff, hl]
      refine ⟨by omega, by omega, hyp_iff.2 ⟨⟨by omega, by omega, rfl, h1, rfl, rfl, bytes_ok _⟩, fun rows m hm h0 hm2 hb => hyp_iff.2 ⟨⟨hm.symm, h0, hb⟩, hyp_iff.2 ⟨by rw [rowsB_size]; omega, fun z hz => hq _ (by rw [hz, rowsB_size]; omega)⟩⟩⟩⟩
  · exact hq.elim
theorem okX3 : OkSp Tryz.prog H0 X3 := ⟨⟨okReadR, okTextR, okX2.fn⟩, trivial⟩
theorem confOk_ps {n pi e g fi : Int} {ps : List (List AV)} (h : s_confOk n pi e g fi (ints ps) = true) : 6 ≤ n ∧ n ≤ 12 ∧ ps.length ≤ 3 := by
  have hl : (ints ps).length = ps.length := by simp [ints]
  simp only [s_confOk, Bool.and_eq_true, decide_eq_true_eq] at h
  omega
theorem okLToldR : OkLp Tryz.prog H0 96 8 lToldR := by
  refine okLp_of (U := 6) (k := 6) okX3 lToldR (fun vals _ => match vals with | [_, _, .int _ len, .int _ i] => (len - i).toNat | _ => 0) fun vals h Q hl => ?_
  unfold lToldR at hl
  split at hl
  · rename_i len i z1 z2 z3 z4 z5 k r sl pk pv m rs
    obtain ⟨⟨h0, h1, h2, h3, h4⟩, hq⟩ := hyp_iff.1 hl
    refine to (nfToldRa ..) (br_intro (fun c => ?_) fun c => hq _ h3)
    have c := of_decide_eq_true c
    have w : IntKind.i64.wrap (i + 1) = i + 1 := wr (by omega) (by omega)
    rw [chk_iff, chk_iff, w]
    exact ⟨⟨h0, by omega⟩, by omega, by show (len - (i + 1)).toNat < (len - i).toNat; omega, hyp_iff.2 ⟨⟨by omega, by omega, h2, by rw [List.length_set]; exact h3, h4⟩, hq⟩⟩
  · exact hl.elim
theorem okX3L : OkSp Tryz.prog H0 X3L := ⟨okX3.fn, okLToldR, trivial⟩
theorem okToldR : OkS Tryz.prog H0 96 sToldR := by
  intro args h Q hq
  unfold sToldR at hq
  split at hq
  · rename_i n pi e g fi nl ps ro sl base
    obtain ⟨⟨hc, h1⟩, hq⟩ := hyp_iff.1 hq
    obtain ⟨h2, h3, h4⟩ := confOk_ps hc
    refine in_ok (S := X3L) (U := 6) (k := 6) okX3L (to (nfToldR ..) ?_)
    have w : IntKind.i64.wrap (n + (ps.length : Int)) = n + ps.length := wr (by omega) (by omega)
    refine hyp_iff.2 ⟨⟨by omega, h3, h4, h1⟩, fun k r s2 pk pv nl2 rows e2 hr => ?_⟩
    rw [w]
    have tail : ∀ z : Int, chk ((0 : Int) ≤ n + ps.length ∧ n + ps.length ≤ n + ps.length ∧ (16 : Int) * (n + ps.length) ≤ (140737488355328 : Int)) (chk (n + (ps.length : Int) ≤ (9223372036854775807 : Int))
        (((Hyp ((0 : Int) ≤ (0 : Int) ∧ (0 : Int) ≤ (↑(n + (ps.length : Int)).toNat : Int) ∧ (↑(n + (ps.length : Int)).toNat : Int) = (↑(n + (ps.length : Int)).toNat : Int) ∧
          (List.replicate (n + (ps.length : Int)).toNat [AV.int IntKind.i64 (0 : Int), AV.int IntKind.i64 (0 : Int)]).length = (n + (ps.length : Int)).toNat ∧ (n + (ps.length : Int)).toNat ≤ (15 : Nat))) ∧
        (∀ (rows : List (List AV)), rows.length = (n + (ps.length : Int)).toNat → chk ((0 : Nat) + (n + (ps.length : Int)).toNat ≤ rows.length)
          (Q (AV.agg [AV.int IntKind.i64 (3 : Int), AV.int IntKind.i64 z, AV.int IntKind.i64 sl, AV.int IntKind.i64 (1 : Int), AV.int IntKind.i64 (0 : Int),
            AV.row false [K.int IntKind.i64, K.int IntKind.i64] (List.take (n + (ps.length : Int)).toNat (List.drop (0 : Nat) rows))], [])))))) := fun z => by
      simp only [chk_iff, hyp_iff, List.length_replicate]
      refine ⟨by omega, by omega, ⟨by omega, by omega, trivial, trivial, by omega⟩, fun rows hr => ⟨by omega, hq _ _ _ _ _ _ _ ?_⟩⟩
      rw [List.length_take]; omega
    refine br_intro (fun _ => br_intro (fun _ => hq _ _ _ _ _ _ _ hr) fun _ => fun z _ => br_intro (fun _ => tail z) fun _ => hq _ _ _ _ _ _ _ (Nat.zero_le _)) fun _ => fun z _ => br_intro (fun _ => tail z) fun _ => hq _ _ _ _ _ _ _ (Nat.zero_le _)
  · exact hq.elim
theorem okX4 : OkSp Tryz.prog H0 X4 := ⟨⟨okToldR, okX3.fn⟩, trivial⟩
theorem okDoneR : OkS Tryz.prog H0 87 sDoneR := by
  intro args h Q hq
  unfold sDoneR at hq
  split at hq
  · rename_i n pi e g fi nl ps how m text ro sl base
    obtain ⟨⟨hc, h1, h2⟩, hq⟩ := hyp_iff.1 hq
    refine in_ok (S := X4) (U := 6) (k := 6) okX4 (to (nfDoneR ..) ?_)
    have cl : ∀ t : ByteArray, t.size ≤ 1000000 → (s_clean t).size ≤ 1000000 := fun t ht => Nat.le_trans (ext_le t _ _) ht
    have w : IntKind.i64.wrap ((base.size : Int) + 1) = (base.size : Int) + 1 := wr (by omega) (by omega)
    have hb := rem_lt m (show (0 : Int) < (base.size : Int) + 1 by omega)
    have tl : (((Hyp (base.size ≤ (1000000 : Nat))) ∧ (∀ (z : ByteArray), z.size = base.size → ((Hyp ((↑z.size : Int) ≤ (4611686018427387904 : Int))) ∧ (Q ((AV.str (s_clean z), []))))))) :=
      hyp_iff.2 ⟨h1, fun z hz => hyp_iff.2 ⟨by omega, hq _ (cl z (by omega))⟩⟩
    rw [w]
    refine br_intro (fun _ => hq _ h1) fun _ => br_intro (fun _ => ?_) fun _ => br_intro (fun _ => hyp_iff.2 ⟨by omega, hq _ (cl _ h2)⟩) fun _ => br_intro (fun _ => ?_) fun _ => br_intro (fun _ => ?_) fun _ => br_intro (fun _ => ?_) fun _ => hq _ (Nat.zero_le _)
    · rw [chk_iff]
      refine ⟨by omega, br_intro (fun c => absurd (of_decide_eq_true c) (by omega)) fun _ => br_intro (fun _ => hq _ (Nat.le_trans (ext_le _ _ _) h1)) fun _ => ?_⟩
      rw [chk_iff]
      exact ⟨by omega, hq _ (Nat.le_trans (ext_le _ _ _) h1)⟩
    · rw [chk_iff]
      exact ⟨by omega, br_intro (fun _ => tl) fun _ => br_intro (fun _ => tl) fun _ => tl⟩
    · exact hyp_iff.2 ⟨⟨hc, h1⟩, fun k r s2 pk pv nl2 rows hr => hyp_iff.2 ⟨by omega, fun z hz => hq _ (by omega)⟩⟩
    · exact hyp_iff.2 ⟨⟨hc, h1⟩, fun k r s2 pk pv nl2 rows hr => hyp_iff.2 ⟨by omega, fun rows2 hr2 => hyp_iff.2 ⟨by rw [hr2, List.length_replicate]; omega, fun z hz => hq _ (by omega)⟩⟩⟩
  · exact hq.elim
theorem okX4d : OkSp Tryz.prog H0 X4d := ⟨⟨okDoneR, okX4.fn⟩, trivial⟩
theorem okEmitR : OkS Tryz.prog H0 72 sEmitR := by
  intro args h Q hq
  unfold sEmitR at hq
  split at hq
  · rename_i n pi e g fi nl rs kind at_ fr to_ nl2 acts devs ro sl fm dst base
    obtain ⟨hd, hq1⟩ := chk_iff.1 hq
    obtain ⟨⟨hc, r1, r2, s1, s2, d1, d2, hz, hal, hact⟩, hQ⟩ := hyp_iff.1 hq1
    clear hq1 hq
    refine in_ok (S := X4d) (U := 6) (k := 6) okX4d ?_
    have hn := confOk_n hc
    have hdone : ∀ i : Nat, i < acts.length → s_confOk n pi e g fi (ints rs) = true ∧ base.size ≤ 1000000 ∧ (actText (acts.getD i [])).size ≤ 1000000 := fun i hi =>
      ⟨hc, hz, hact (acts.getD i []) (by rw [List.getD_eq_getElem?_getD, List.getElem?_eq_getElem hi]; simp)⟩
    have hb : s_hit n kind at_ fm dst = false ∨ to_ ≤ ro → Q (.str base, []) := fun hh => hQ base ⟨hz, fun _ => rfl, fun a b _ => (hh.elim (fun x => by rw [x] at a; cases a) fun x => by omega)⟩
    have he : s_hit n kind at_ fm dst = true → ro < to_ → Q (.str (ByteArray.mk #[]), []) := fun a b => hQ _ ⟨Nat.zero_le _, fun hh => (hh.elim (fun x => by rw [x] at a; cases a) fun x => by omega), fun _ _ _ => rfl⟩
    have hz2 : s_hit n kind at_ fm dst = true → ro < to_ → ¬ ro < fr → ∀ z : ByteArray, z.size ≤ 1000000 → Q (.str z, []) := fun a b c z hz => hQ z ⟨hz, fun hh => (hh.elim (fun x => by rw [x] at a; cases a) fun x => by omega), fun _ _ x => absurd x c⟩
    rcases isRN_cases hd with rfl | ⟨nl3, sh, ds, rfl⟩
    · refine to (nfEmitRn ..) ?_
      generalize IntKind.i64.wrap (IntKind.i64.wrap (IntKind.i64.wrap (17 * ro) + IntKind.i64.wrap (5 * sl)) + dst) = ky
      refine ⟨.mk hc, .mk (by omega), ?_⟩
      refine br_intro (fun c1 => hb (.inl (by simpa using c1))) fun c1 => ?_
      simp only [Bool.not_eq_false'] at c1
      refine br_intro (fun c2 => hb (.inr (of_decide_eq_true c2))) fun c2 => ?_
      have c2 := of_decide_eq_false c2
      have c2 : ro < to_ := by omega
      refine br_intro (fun c3 => he c1 c2) fun c3 => ?_
      have c3 := of_decide_eq_false c3
      rw [chk_iff]
      refine ⟨by omega, br_intro (fun c4 => he c1 c2) fun c4 => ?_⟩
      have c4 := of_decide_eq_false c4
      have hr := rem_lt ky (show (0 : Int) < acts.length by omega)
      refine br_intro (fun c5 => ?_) fun c5 => br_intro (fun c6 => he c1 c2) fun c6 => ?_
      · rw [chk_iff]
        exact ⟨by omega, .mk (hdone 0 (by omega)), hz2 c1 c2 c3⟩
      · rw [chk_iff]
        exact ⟨hr, .mk (hdone _ (by omega)), hz2 c1 c2 c3⟩
    · refine to (nfEmitRr ..) ?_
      generalize IntKind.i64.wrap (IntKind.i64.wrap (IntKind.i64.wrap (17 * ro) + IntKind.i64.wrap (5 * sl)) + dst) = ky
      refine ⟨.mk hc, .mk (by omega), ?_⟩
      refine br_intro (fun c1 => hb (.inl (by simpa using c1))) fun c1 => ?_
      simp only [Bool.not_eq_false'] at c1
      refine br_intro (fun c2 => hb (.inr (of_decide_eq_true c2))) fun c2 => ?_
      have c2 := of_decide_eq_false c2
      have c2 : ro < to_ := by omega
      refine br_intro (fun c3 => he c1 c2) fun c3 => ?_
      have c3 := of_decide_eq_false c3
      rw [chk_iff]
      refine ⟨by omega, br_intro (fun c4 => he c1 c2) fun c4 => ?_⟩
      have c4 := of_decide_eq_false c4
      have hr := rem_lt ky (show (0 : Int) < acts.length by omega)
      refine br_intro (fun c5 => ?_) fun c5 => br_intro (fun c6 => he c1 c2) fun c6 => ?_
      · rw [chk_iff]
        exact ⟨by omega, .mk (hdone 0 (by omega)), hz2 c1 c2 c3⟩
      · rw [chk_iff]
        exact ⟨hr, .mk (hdone _ (by omega)), hz2 c1 c2 c3⟩
  · exact hq.elim
theorem okX5 : OkSp Tryz.prog H0 X5 := ⟨⟨okEmitR, okX4d.fn⟩, trivial⟩
end Go.Proofs.YtiemjcchlfbglaaGreatE
/- What a locus emits, as some function; the owners and the ways of two owners, of none. -/
namespace Go.Proofs.YtiemjcchlfbglaaGreatE
open Go
set_option linter.unusedVariables false

abbrev emA (n pi e g fi : Int) (nl : Bool) (ps : List (List AV)) (kind at_ fr to_ : Int) (nl2 : Bool) (acts : List (List AV)) (devs : AV) (ro sl fm dst : Int) (base : ByteArray) : List AV :=
  [.agg [.int .i64 n, .int .i64 pi, .int .i64 e, .int .i64 g, .int .i64 fi, .row nl [.int .i64] ps], .agg [.int .i64 kind, .int .i64 at_, .int .i64 fr, .int .i64 to_, .row nl2 [.int .i64, .int .i64, .str] acts, devs], .int .i64 ro, .int .i64 sl, .int .i64 fm, .int .i64 dst, .str base]
def sEmitF (F : List AV → ByteArray) : SW := fun args h Q => match args, h with
  | [.agg [.int .i64 n, .int .i64 pi, .int .i64 e, .int .i64 g, .int .i64 fi, .row nl [.int .i64] ps], .agg [.int .i64 kind, .int .i64 at_, .int .i64 fr, .int .i64 to_, .row nl2 [.int .i64, .int .i64, .str] acts, devs], .int .i64 ro, .int .i64 sl, .int .i64 fm, .int .i64 dst, .str base], [] =>
    chk (isRN devs = true) (Hyp (s_dom n pi e g fi ps acts ro sl dst base) ∧ ∀ z, z = F (emA n pi e g fi nl ps kind at_ fr to_ nl2 acts devs ro sl fm dst base) → Q (.str z, []))
  | _, _ => False
def s_emOk (F : List AV → ByteArray) : Prop := ∀ (n pi e g fi : Int) (nl : Bool) (ps : List (List AV)) (kind at_ fr to_ : Int) (nl2 : Bool) (acts : List (List AV)) (devs : AV) (ro sl fm dst : Int) (base : ByteArray), isRN devs = true → s_dom n pi e g fi ps acts ro sl dst base →
  s_emitR (s_hit n kind at_ fm dst) fr to_ ro base (F (emA n pi e g fi nl ps kind at_ fr to_ nl2 acts devs ro sl fm dst base))
def s_pair (ps : List (List AV)) (k : Int) : Int := ((ps.getD k.toNat []).getD 0 AV.gone).toI
def sOwn2 : SW := fun args h Q => match args, h with
  | [.agg [.int .i64 n, .int .i64 pi, .int .i64 e, .int .i64 g, .int .i64 fi, .row nl [.int .i64] ps], .int .i64 slot], [] => Hyp (6 ≤ n ∧ n ≤ 12 ∧ n ≤ slot ∧ slot < n + ps.length ∧ ps.length ≤ 3 ∧ 0 ≤ s_pair ps (slot - n) ∧ s_pair ps (slot - n) < n) ∧
      Q (.row false [.int .i64] [[.int .i64 (s_pair ps (slot - n))], [.int .i64 (s_rem (s_pair ps (slot - n) + 1) n)]], [])
  | _, _ => False
def sOwn0 : SW := fun args h Q => match args, h with
  | [.agg [.int .i64 n, .int .i64 pi, .int .i64 e, .int .i64 g, .int .i64 fi, .row nl [.int .i64] ps], .int .i64 slot], [] => Hyp (6 ≤ n ∧ n ≤ 12 ∧ n ≤ slot ∧ slot < n + ps.length ∧ ps.length ≤ 3 ∧ s_pair ps (slot - n) = -1) ∧ Q (.row true [.int .i64] [], [])
  | _, _ => False
def s_last (n a dir : Int) : Int := if dir = 1 then s_rem (a + 1) n else a
def lWay2 : LW := fun vals h Q => match vals, h with
  | [.int .i64 n, .row nl [.int .i64] [[.int .i64 a], [.int .i64 b]], .int .i64 dir, .int .i64 last, .ptr 0 0, .fn (.func 59) [.ptr 0 0] [], .int .i64 d], [.box [.nils]] =>
    Hyp (d = 1 ∧ last = s_last n a dir ∧ 6 ≤ n ∧ n ≤ 12 ∧ 0 ≤ a ∧ a < n ∧ b = s_rem (a + 1) n ∧ (dir = 1 ∨ dir = -1)) ∧ ∀ (m : Nat) rows, (m : Int) = n - 2 ∧ rows = s_wayL n (s_last n a dir) dir m → Q (.exit 0) [.ptr 0 0] [.box [.sl 1 0 m], .arr 2 3 [.int .i64] rows]
  | [.int .i64 n, .row nl [.int .i64] [[.int .i64 a], [.int .i64 b]], .int .i64 dir, .int .i64 last, .ptr 0 0, .fn (.func 59) [.ptr 0 0] [], .int .i64 d], [.box [.sl 1 0 j], .arr 2 3 [.int .i64] rs] =>
    ((d = j + 1 ∨ d = j + 2 ∧ d = n) ∧ last = s_last n a dir ∧ 6 ≤ n ∧ n ≤ 12 ∧ 0 ≤ a ∧ a < n ∧ b = s_rem (a + 1) n ∧ (dir = 1 ∨ dir = -1) ∧ (j : Int) ≤ n - 2 ∧ rs = s_wayL n (s_last n a dir) dir j) ∧ ∀ (m : Nat) rows, (m : Int) = n - 2 ∧ rows = s_wayL n (s_last n a dir) dir m → Q (.exit 0) [.ptr 0 0] [.box [.sl 1 0 m], .arr 2 3 [.int .i64] rows]
  | _, _ => False
def sWay2 : SW := fun args h Q => match args, h with
  | [.int .i64 n, .row nl [.int .i64] [[.int .i64 a], [.int .i64 b]], .int .i64 dir], [] => Hyp (nl = false ∧ 6 ≤ n ∧ n ≤ 12 ∧ 0 ≤ a ∧ a < n ∧ b = s_rem (a + 1) n ∧ (dir = 1 ∨ dir = -1)) ∧ ∀ (m : Nat) rows, (m : Int) = n - 2 ∧ rows = s_wayL n (s_last n a dir) dir m → Q (.row false [.int .i64] rows, [])
  | _, _ => False
def sWay0 : SW := fun args h Q => match args, h with
  | [.int .i64 n, .row nl [.int .i64] [], .int .i64 dir], [] => Q (.row true [.int .i64] [], [])
  | _, _ => False
def U2L2 : Sp := ⟨U2.fn, [(45, 9, lWay2)]⟩
end Go.Proofs.YtiemjcchlfbglaaGreatE
/- What path mode says of functions, printed by a program of this session; the kernel holds each. -/
namespace Go.Proofs.YtiemjcchlfbglaaGreatE
open Go
set_option maxRecDepth 100000
set_option linter.unusedVariables false
theorem nfWay2 (n a b dir : Int) (nl : Bool) (Q : AV × List AObj → Prop) : inlW Tryz.prog H0 U2L2 6 (InO Tryz.prog H0 U2L2 6 6) 45 [.int .i64 n, .row nl [.int .i64] [[.int .i64 a], [.int .i64 b]], .int .i64 dir] [] Q = (
br (decide (n < (6 : Int)))
 (Q ((AV.row true [K.int IntKind.i64] [], [])))
 (br (decide (n > (12 : Int)))
  (Q ((AV.row true [K.int IntKind.i64] [], [])))
  (br (dir == (1 : Int))
   (((Hyp ((1 : Int) = (1 : Int) ∧
  b = s_last n a dir ∧
    (6 : Int) ≤ n ∧
      n ≤ (12 : Int) ∧ (0 : Int) ≤ a ∧ a < n ∧ b = s_rem (a + (1 : Int)) n ∧ (dir = (1 : Int) ∨ dir = (-1 : Int)))) ∧
   ((∀ (m104 : Nat),
   (∀ (rows105 : List (List AV)),
   (((↑m104 : Int) = n - (2 : Int) ∧ rows105 = s_wayL n (s_last n a dir) dir m104) →
   chk ((0 : Nat) + m104 ≤ rows105.length) (chk (((0 : Nat) + (List.take m104 (List.drop (0 : Nat) rows105)).length) * (8 : Nat) ≤ (140737488355328 : Nat)) (chk ((0 : Nat) + (List.take m104 (List.drop (0 : Nat) rows105)).length ≤ (9223372036854775807 : Nat)) (chk ((0 : Nat) + ((0 : Nat) + (List.take m104 (List.drop (0 : Nat) rows105)).length) ≤
  ([] ++ List.take m104 (List.drop (0 : Nat) rows105)).length) (Q ((AV.row false [K.int IntKind.i64]
    (List.take ((0 : Nat) + (List.take m104 (List.drop (0 : Nat) rows105)).length)
      (List.drop (0 : Nat) ([] ++ List.take m104 (List.drop (0 : Nat) rows105)))),
  []))))))))))))
   (((Hyp ((1 : Int) = (1 : Int) ∧
  a = s_last n a dir ∧
    (6 : Int) ≤ n ∧
      n ≤ (12 : Int) ∧ (0 : Int) ≤ a ∧ a < n ∧ b = s_rem (a + (1 : Int)) n ∧ (dir = (1 : Int) ∨ dir = (-1 : Int)))) ∧
   ((∀ (m104 : Nat),
   (∀ (rows105 : List (List AV)),
   (((↑m104 : Int) = n - (2 : Int) ∧ rows105 = s_wayL n (s_last n a dir) dir m104) →
   chk ((0 : Nat) + m104 ≤ rows105.length) (chk (((0 : Nat) + (List.take m104 (List.drop (0 : Nat) rows105)).length) * (8 : Nat) ≤ (140737488355328 : Nat)) (chk ((0 : Nat) + (List.take m104 (List.drop (0 : Nat) rows105)).length ≤ (9223372036854775807 : Nat)) (chk ((0 : Nat) + ((0 : Nat) + (List.take m104 (List.drop (0 : Nat) rows105)).length) ≤
  ([] ++ List.take m104 (List.drop (0 : Nat) rows105)).length) (Q ((AV.row false [K.int IntKind.i64]
    (List.take ((0 : Nat) + (List.take m104 (List.drop (0 : Nat) rows105)).length)
      (List.drop (0 : Nat) ([] ++ List.take m104 (List.drop (0 : Nat) rows105)))),
  []))))))))))))))) := by kernel_rfl
theorem nfWay0 (n dir : Int) (nl : Bool) (Q : AV × List AObj → Prop) : inlW Tryz.prog H0 U2 6 (InO Tryz.prog H0 U2 6 6) 45 [.int .i64 n, .row nl [.int .i64] [], .int .i64 dir] [] Q = (
Q ((AV.row true [K.int IntKind.i64] [], []))) := by kernel_rfl
theorem nfWay2a (n a b dir last d : Int) (nl : Bool) (Q : Ex → List AV → List AObj → Prop) : lpBody Tryz.prog H0 U2 6 6 45 9 [.int .i64 n, .row nl [.int .i64] [[.int .i64 a], [.int .i64 b]], .int .i64 dir, .int .i64 last, .ptr 0 0, .fn (.func 59) [.ptr 0 0] [], .int .i64 d] [.box [.nils]] Q = (
br (decide (d < n))
 (((Hyp ((0 : Int) < n ∧
  n ≤ (1000000 : Int) ∧
    (-1000000 : Int) ≤ last ∧
      last ≤ (1000000 : Int) ∧
        (-1000000 : Int) ≤ IntKind.i64.wrap (dir * d) ∧ IntKind.i64.wrap (dir * d) ≤ (1000000 : Int))) ∧
 (br (s_rem (last + IntKind.i64.wrap (dir * d)) n == a)
  (Q (Ex.nrm) ([AV.int IntKind.i64 n, AV.row nl [K.int IntKind.i64] [[AV.int IntKind.i64 a], [AV.int IntKind.i64 b]],
  AV.int IntKind.i64 dir, AV.int IntKind.i64 last, AV.ptr (0 : Nat) (0 : Nat),
  AV.fn (Fn.func (59 : Nat)) [AV.ptr (0 : Nat) (0 : Nat)] [], AV.int IntKind.i64 (IntKind.i64.wrap (d + (1 : Int)))]) ([AObj.box [AV.nils]]))
  (br (s_rem (last + IntKind.i64.wrap (dir * d)) n == b)
   (Q (Ex.nrm) ([AV.int IntKind.i64 n, AV.row nl [K.int IntKind.i64] [[AV.int IntKind.i64 a], [AV.int IntKind.i64 b]],
  AV.int IntKind.i64 dir, AV.int IntKind.i64 last, AV.ptr (0 : Nat) (0 : Nat),
  AV.fn (Fn.func (59 : Nat)) [AV.ptr (0 : Nat) (0 : Nat)] [], AV.int IntKind.i64 (IntKind.i64.wrap (d + (1 : Int)))]) ([AObj.box [AV.nils]]))
   (Q (Ex.nrm) ([AV.int IntKind.i64 n, AV.row nl [K.int IntKind.i64] [[AV.int IntKind.i64 a], [AV.int IntKind.i64 b]],
  AV.int IntKind.i64 dir, AV.int IntKind.i64 last, AV.ptr (0 : Nat) (0 : Nat),
  AV.fn (Fn.func (59 : Nat)) [AV.ptr (0 : Nat) (0 : Nat)] [], AV.int IntKind.i64 (IntKind.i64.wrap (d + (1 : Int)))]) ([AObj.box [AV.sl (1 : Nat) (0 : Nat) (1 : Nat)],
  AObj.arr (2 : Nat) (3 : Nat) [K.int IntKind.i64] [[AV.int IntKind.i64 (s_rem (last + IntKind.i64.wrap (dir * d)) n)]]]))))))
 (Q (Ex.exit (0 : Nat)) ([AV.ptr (0 : Nat) (0 : Nat)]) ([AObj.box [AV.nils]]))) := by kernel_rfl
theorem nfWay2b (n a b dir last d : Int) (nl : Bool) (j : Nat) (rs : List (List AV)) (Q : Ex → List AV → List AObj → Prop) : lpBody Tryz.prog H0 U2 6 6 45 9 [.int .i64 n, .row nl [.int .i64] [[.int .i64 a], [.int .i64 b]], .int .i64 dir, .int .i64 last, .ptr 0 0, .fn (.func 59) [.ptr 0 0] [], .int .i64 d] [.box [.sl 1 0 j], .arr 2 3 [.int .i64] rs] Q = (
br (decide (d < n))
 (((Hyp ((0 : Int) < n ∧
  n ≤ (1000000 : Int) ∧
    (-1000000 : Int) ≤ last ∧
      last ≤ (1000000 : Int) ∧
        (-1000000 : Int) ≤ IntKind.i64.wrap (dir * d) ∧ IntKind.i64.wrap (dir * d) ≤ (1000000 : Int))) ∧
 (br (s_rem (last + IntKind.i64.wrap (dir * d)) n == a)
  (Q (Ex.nrm) ([AV.int IntKind.i64 n, AV.row nl [K.int IntKind.i64] [[AV.int IntKind.i64 a], [AV.int IntKind.i64 b]],
  AV.int IntKind.i64 dir, AV.int IntKind.i64 last, AV.ptr (0 : Nat) (0 : Nat),
  AV.fn (Fn.func (59 : Nat)) [AV.ptr (0 : Nat) (0 : Nat)] [], AV.int IntKind.i64 (IntKind.i64.wrap (d + (1 : Int)))]) ([AObj.box [AV.sl (1 : Nat) (0 : Nat) j], AObj.arr (2 : Nat) (3 : Nat) [K.int IntKind.i64] rs]))
  (br (s_rem (last + IntKind.i64.wrap (dir * d)) n == b)
   (Q (Ex.nrm) ([AV.int IntKind.i64 n, AV.row nl [K.int IntKind.i64] [[AV.int IntKind.i64 a], [AV.int IntKind.i64 b]],
  AV.int IntKind.i64 dir, AV.int IntKind.i64 last, AV.ptr (0 : Nat) (0 : Nat),
  AV.fn (Fn.func (59 : Nat)) [AV.ptr (0 : Nat) (0 : Nat)] [], AV.int IntKind.i64 (IntKind.i64.wrap (d + (1 : Int)))]) ([AObj.box [AV.sl (1 : Nat) (0 : Nat) j], AObj.arr (2 : Nat) (3 : Nat) [K.int IntKind.i64] rs]))
   (chk (j = rs.length) (chk ((rs.length + (1 : Nat)) * (8 : Nat) ≤ (140737488355328 : Nat)) (chk (rs.length + (1 : Nat) ≤ (9223372036854775807 : Nat)) (Q (Ex.nrm) ([AV.int IntKind.i64 n, AV.row nl [K.int IntKind.i64] [[AV.int IntKind.i64 a], [AV.int IntKind.i64 b]],
  AV.int IntKind.i64 dir, AV.int IntKind.i64 last, AV.ptr (0 : Nat) (0 : Nat),
  AV.fn (Fn.func (59 : Nat)) [AV.ptr (0 : Nat) (0 : Nat)] [], AV.int IntKind.i64 (IntKind.i64.wrap (d + (1 : Int)))]) ([AObj.box [AV.sl (1 : Nat) (0 : Nat) (rs.length + (1 : Nat))],
  AObj.arr (2 : Nat) (3 : Nat) [K.int IntKind.i64]
    (rs ++ [[AV.int IntKind.i64 (s_rem (last + IntKind.i64.wrap (dir * d)) n)]])])))))))))
 (Q (Ex.exit (0 : Nat)) ([AV.ptr (0 : Nat) (0 : Nat)]) ([AObj.box [AV.sl (1 : Nat) (0 : Nat) j], AObj.arr (2 : Nat) (3 : Nat) [K.int IntKind.i64] rs]))) := by kernel_rfl
end Go.Proofs.YtiemjcchlfbglaaGreatE
/- What a locus emits, as some function; the owners and the ways of two owners, of none: the specs hold. -/
namespace Go.Proofs.YtiemjcchlfbglaaGreatE
open Go
set_option linter.unusedVariables false
set_option linter.unusedSimpArgs false
set_option maxRecDepth 100000

/-- The emission is some function of its arguments, with the rough emission's marks. -/
theorem em_ex : ∃ F : List AV → ByteArray, s_emOk F ∧ OkS Tryz.prog H0 72 (sEmitF F) := by
  have ex : ∀ args : List AV, ∃ z : ByteArray, ∀ (n pi e g fi : Int) (nl : Bool) (ps : List (List AV)) (kind at_ fr to_ : Int) (nl2 : Bool) (acts : List (List AV)) (devs : AV) (ro sl fm dst : Int) (base : ByteArray),
      args = emA n pi e g fi nl ps kind at_ fr to_ nl2 acts devs ro sl fm dst base → isRN devs = true → s_dom n pi e g fi ps acts ro sl dst base →
      s_emitR (s_hit n kind at_ fm dst) fr to_ ro base z ∧ ∀ Q : AV × List AObj → Prop, Q (.str z, []) → Ev (fun k => run Tryz.prog H0 k 72 args []) Q := by
    intro args
    by_cases hx : ∃ (n pi e g fi : Int) (nl : Bool) (ps : List (List AV)) (kind at_ fr to_ : Int) (nl2 : Bool) (acts : List (List AV)) (devs : AV) (ro sl fm dst : Int) (base : ByteArray),
        args = emA n pi e g fi nl ps kind at_ fr to_ nl2 acts devs ro sl fm dst base ∧ isRN devs = true ∧ s_dom n pi e g fi ps acts ro sl dst base
    · obtain ⟨n, pi, e, g, fi, nl, ps, kind, at_, fr, to_, nl2, acts, devs, ro, sl, fm, dst, base, e1, h1, h2⟩ := hx
      have h := okEmitR args [] (fun r => ∃ z, r = (.str z, []) ∧ s_emitR (s_hit n kind at_ fm dst) fr to_ ro base z) (by
        rw [e1]
        exact chk_iff.2 ⟨h1, hyp_iff.2 ⟨h2, fun z hz => ⟨z, rfl, hz⟩⟩⟩)
      obtain ⟨a, ⟨K, ea⟩, z, rfl, hz⟩ := h
      refine ⟨z, fun n' pi' e' g' fi' nl' ps' kind' at_' fr' to_' nl2' acts' devs' ro' sl' fm' dst' base' e2 h1' h2' => ?_⟩
      rw [e1] at e2
      injection e2 with a1 a2
      injection a1 with a1
      injection a1 with c1 a1
      injection a1 with c2 a1
      injection a1 with c3 a1
      injection a1 with c4 a1
      injection a1 with c5 a1
      injection a1 with c6 a1
      injection c1 with _ c1
      injection c6 with c6a _ c6b
      injection a2 with b1 a2
      injection b1 with b1
      injection b1 with d1 b1
      injection b1 with d2 b1
      injection b1 with d3 b1
      injection b1 with d4 b1
      injection d1 with _ d1
      injection d2 with _ d2
      injection d3 with _ d3
      injection d4 with _ d4
      injection a2 with f1 a2
      injection a2 with f2 a2
      injection a2 with f3 a2
      injection a2 with f4 a2
      injection a2 with f5 a2
      injection f1 with _ f1
      injection f3 with _ f3
      injection f4 with _ f4
      injection f5 with f5
      subst c1; subst d1; subst d2; subst d3; subst d4; subst f1; subst f3; subst f4; subst f5
      exact ⟨hz, fun Q hQ => ⟨_, ⟨K, ea⟩, hQ⟩⟩
    · exact ⟨⟨#[]⟩, fun n pi e g fi nl ps kind at_ fr to_ nl2 acts devs ro sl fm dst base e1 h1 h2 => (hx ⟨n, pi, e, g, fi, nl, ps, kind, at_, fr, to_, nl2, acts, devs, ro, sl, fm, dst, base, e1, h1, h2⟩).elim⟩
  obtain ⟨F, hF⟩ := Classical.axiomOfChoice ex
  refine ⟨F, fun n pi e g fi nl ps kind at_ fr to_ nl2 acts devs ro sl fm dst base h1 h2 => (hF _ n pi e g fi nl ps kind at_ fr to_ nl2 acts devs ro sl fm dst base rfl h1 h2).1, ?_⟩
  intro args h Q hq
  unfold sEmitF at hq
  split at hq
  · rename_i n pi e g fi nl ps kind at_ fr to_ nl2 acts devs ro sl fm dst base
    obtain ⟨h1, hq⟩ := chk_iff.1 hq
    obtain ⟨h2, hq⟩ := hyp_iff.1 hq
    exact (hF _ n pi e g fi nl ps kind at_ fr to_ nl2 acts devs ro sl fm dst base rfl h1 h2).2 Q (hq _ rfl)
  · exact hq.elim
theorem okOwn2 : OkS Tryz.prog H0 43 sOwn2 := by
  intro args h Q hq
  unfold sOwn2 at hq
  split at hq
  · rename_i n pi e g fi nl ps slot
    obtain ⟨⟨h0, h1, h2, h3, h4, h5, h6⟩, hq⟩ := hyp_iff.1 hq
    refine in_ok (S := U2) (U := 6) (k := 6) okU2 (to (nfOwn ..) ?_)
    have w : IntKind.i64.wrap (slot - n) = slot - n := wr (by omega) (by omega)
    rw [w]
    have hp : ((ps.getD (slot - n).toNat []).getD 0 AV.gone).toI = s_pair ps (slot - n) := rfl
    rw [hp, wr (x := s_pair ps (slot - n) + 1) (by omega) (by omega)]
    refine br_intro (fun c => absurd (of_decide_eq_true c) (by omega)) fun _ => br_intro (fun c => absurd (of_decide_eq_true c) (by omega)) fun _ => br_intro (fun c => absurd (of_decide_eq_true c) (by omega)) fun _ => ?_
    simp only [chk_iff]
    refine ⟨by omega, br_intro (fun c => absurd (beq_iff_eq.1 c) (by omega)) fun _ => br_intro (fun c => absurd (of_decide_eq_true c) (by omega)) fun _ => ⟨by omega, by omega, by omega, ?_⟩⟩
    rw [Int.tmod_eq_emod_of_nonneg (by omega)]
    exact hq
  · exact hq.elim
theorem okOwn0 : OkS Tryz.prog H0 43 sOwn0 := by
  intro args h Q hq
  unfold sOwn0 at hq
  split at hq
  · rename_i n pi e g fi nl ps slot
    obtain ⟨⟨h0, h1, h2, h3, h4, h5⟩, hq⟩ := hyp_iff.1 hq
    refine in_ok (S := U2) (U := 6) (k := 6) okU2 (to (nfOwn ..) ?_)
    have w : IntKind.i64.wrap (slot - n) = slot - n := wr (by omega) (by omega)
    rw [w]
    have hp : ((ps.getD (slot - n).toNat []).getD 0 AV.gone).toI = s_pair ps (slot - n) := rfl
    rw [hp, h5]
    refine br_intro (fun c => absurd (of_decide_eq_true c) (by omega)) fun _ => br_intro (fun c => absurd (of_decide_eq_true c) (by omega)) fun _ => br_intro (fun c => absurd (of_decide_eq_true c) (by omega)) fun _ => ?_
    rw [chk_iff]
    exact ⟨by omega, br_intro (fun _ => hq) fun c => absurd c (by decide)⟩
  · exact hq.elim
theorem last_lt {n a dir : Int} (hn : 0 < n) (ha : 0 ≤ a) (ha2 : a < n) : 0 ≤ s_last n a dir ∧ s_last n a dir < n := by
  unfold s_last
  split
  · exact rem_lt _ hn
  · exact ⟨ha, ha2⟩
theorem rem1 {n a : Int} (hn : 1 < n) (ha : 0 ≤ a) (ha2 : a < n) : s_rem (a + 1) n = if a + 1 < n then a + 1 else 0 := by
  have := rem_c (show 0 < n by omega) (a + 1)
  split
  · exact this.1 (by omega) (by omega)
  · rw [this.2.2 (by omega) (by omega)]; omega
theorem last_node {n a dir : Int} (hn : 6 ≤ n) (ha : 0 ≤ a) (ha2 : a < n) (hd : dir = 1 ∨ dir = -1) : s_node n (s_last n a dir) dir (n.toNat - 1) = if dir = 1 then a else s_rem (a + 1) n := by
  have hl := last_lt (n := n) (dir := dir) (by omega) ha ha2
  have hr := rem1 (n := n) (by omega) ha ha2
  have hk : ((n.toNat - 1 : Nat) : Int) < n := by omega
  rcases hd with rfl | rfl
  · have e : s_last n a 1 = s_rem (a + 1) n := by unfold s_last; rw [if_pos rfl]
    rw [e] at hl ⊢
    rw [node_up hl.1 hl.2 hk, if_pos rfl]
    rw [hr] at hl ⊢
    split <;> split <;> omega
  · have e : s_last n a (-1) = a := by unfold s_last; rw [if_neg (by omega)]
    rw [e, node_dn ha ha2 hk, if_neg (show ¬ (-1 : Int) = 1 by omega), hr]
    split <;> split <;> omega
/-- Which of them are owners. -/
theorem way2_own {n a dir : Int} (hn : 6 ≤ n) (ha : 0 ≤ a) (ha2 : a < n) (hd : dir = 1 ∨ dir = -1) {k : Nat} (hk : 0 < k) (hk2 : (k : Int) < n) :
    (s_node n (s_last n a dir) dir k = a ∨ s_node n (s_last n a dir) dir k = s_rem (a + 1) n) ↔ (k : Int) = n - 1 := by
  have hl := last_lt (n := n) (dir := dir) (by omega) ha ha2
  have h1 := last_node hn ha ha2 hd
  have hf := far_node hd hl.1 hl.2 hk2
  have hf1 := far_node hd hl.1 hl.2 (k := n.toNat - 1) (by omega)
  have hf0 := far_node hd hl.1 hl.2 (k := 0) (by omega)
  rw [node_zero hl.1 hl.2] at hf0
  have key : s_node n (s_last n a dir) dir k = s_node n (s_last n a dir) dir (n.toNat - 1) ↔ (k : Int) = n - 1 := by
    constructor
    · intro h; rw [h] at hf; omega
    · intro h
      have : k = n.toNat - 1 := by omega
      rw [this]
  have ne0 : s_node n (s_last n a dir) dir k ≠ s_last n a dir := fun h => by
    rw [h] at hf; omega
  rw [h1] at key
  have ne0 : s_node n (s_last n a dir) dir k ≠ (if dir = 1 then s_rem (a + 1) n else a) := ne0
  rw [← key]
  by_cases h : dir = 1
  · rw [if_pos h]; rw [if_pos h] at ne0
    exact ⟨fun hh => hh.elim id fun hh => (ne0 hh).elim, .inl⟩
  · rw [if_neg h]; rw [if_neg h] at ne0
    exact ⟨fun hh => hh.elim (fun hh => (ne0 hh).elim) id, .inr⟩
theorem okLWay2 : OkLp Tryz.prog H0 45 9 lWay2 := by
  refine okLp_of (U := 6) (k := 6) okU2 lWay2 (fun vals _ => match vals with | [.int _ n, _, _, _, _, _, .int _ d] => (n - d).toNat | _ => 0) fun vals h Q hl => ?_
  unfold lWay2 at hl
  split at hl
  · rename_i n nl a b dir last d
    obtain ⟨⟨h0, h1, h2, h3, h4, h5, hb, h6⟩, hq⟩ := hyp_iff.1 hl
    subst h0; subst h1; subst hb
    have w := dir_mul h6 (d := 1) (by omega) (by omega)
    have hll := last_lt (n := n) (dir := dir) (by omega) h4 h5
    have hown := way2_own h2 h4 h5 h6 (k := 1) (by omega) (by omega)
    have hnd : s_rem (s_last n a dir + dir * 1) n = s_node n (s_last n a dir) dir 1 := rfl
    have w2 : IntKind.i64.wrap (1 + 1) = 2 := wr (by omega) (by omega)
    refine to (nfWay2a ..) ?_
    rw [wr (x := dir * 1) (by omega) (by omega), hnd, w2]
    refine br_intro (fun c => hyp_iff.2 ⟨⟨by omega, by omega, by omega, by omega, w.1, w.2⟩, ?_⟩) fun c => absurd (of_decide_eq_false c) (by omega)
    refine br_intro (fun c2 => absurd (hown.1 (.inl (beq_iff_eq.1 c2))) (by omega)) fun _ => br_intro (fun c2 => absurd (hown.1 (.inr (beq_iff_eq.1 c2))) (by omega)) fun _ => ?_
    exact ⟨by show (n - 2).toNat < (n - 1).toNat; omega, ⟨.inl rfl, rfl, h2, h3, h4, h5, rfl, h6, by omega, rfl⟩, hq⟩
  · rename_i n nl a b dir last d j rs
    obtain ⟨⟨h0, h1, h2, h3, h4, h5, hb, h6, h7, h8⟩, hq⟩ := hl
    subst h1; subst h8; subst hb
    have w := dir_mul h6 (d := d) (by omega) (by omega)
    have hll := last_lt (n := n) (dir := dir) (by omega) h4 h5
    refine to (nfWay2b ..) ?_
    rw [wr (x := dir * d) (by omega) (by omega), wayL_len]
    refine br_intro (fun c => ?_) fun c => ?_
    · have c := of_decide_eq_true c
      have hd1 : d = j + 1 := by omega
      have hown := way2_own h2 h4 h5 h6 (k := j + 1) (by omega) (by omega)
      have hnd : s_rem (s_last n a dir + dir * d) n = s_node n (s_last n a dir) dir (j + 1) := by rw [hd1]; rfl
      have wd : IntKind.i64.wrap (d + 1) = d + 1 := wr (by omega) (by omega)
      rw [hnd, wd]
      have hm : (n - (d + 1)).toNat < (n - d).toNat := by omega
      have fin : ((j + 1 : Nat) : Int) = n - 1 → stepQ lWay2 (fun vals _ => match vals with | [.int _ n, _, _, _, _, _, .int _ d] => (n - d).toNat | _ => 0) [.int .i64 n, .row nl [.int .i64] [[.int .i64 a], [.int .i64 (s_rem (a + 1) n)]], .int .i64 dir, .int .i64 (s_last n a dir), .ptr 0 0, .fn (.func 59) [.ptr 0 0] [], .int .i64 d] [.box [.sl 1 0 j], .arr 2 3 [.int .i64] (s_wayL n (s_last n a dir) dir j)] Q .nrm
          [.int .i64 n, .row nl [.int .i64] [[.int .i64 a], [.int .i64 (s_rem (a + 1) n)]], .int .i64 dir, .int .i64 (s_last n a dir), .ptr 0 0, .fn (.func 59) [.ptr 0 0] [], .int .i64 (d + 1)] [.box [.sl 1 0 j], .arr 2 3 [.int .i64] (s_wayL n (s_last n a dir) dir j)] := fun hj =>
        ⟨hm, ⟨.inr (by omega), rfl, h2, h3, h4, h5, rfl, h6, h7, rfl⟩, hq⟩
      refine hyp_iff.2 ⟨⟨by omega, by omega, by omega, by omega, w.1, w.2⟩, ?_⟩
      refine br_intro (fun c2 => fin (hown.1 (.inl (beq_iff_eq.1 c2)))) fun c2 => br_intro (fun c3 => fin (hown.1 (.inr (beq_iff_eq.1 c3)))) fun c3 => ?_
      have hj : ¬ ((j + 1 : Nat) : Int) = n - 1 := fun hj => (hown.2 hj).elim (fun h => by rw [h] at c2; simp at c2) fun h => by rw [h] at c3; simp at c3
      rw [chk_iff, chk_iff, chk_iff]
      exact ⟨rfl, by omega, by omega, hm, ⟨.inl (by omega), rfl, h2, h3, h4, h5, rfl, h6, by omega, by rw [wayL_succ]⟩, hq⟩
    · have c := of_decide_eq_false c
      exact hq j _ ⟨by omega, rfl⟩
  · exact hl.elim
theorem okU2L2 : OkSp Tryz.prog H0 U2L2 := ⟨okU2.fn, okLWay2, trivial⟩
theorem okWay2 : OkS Tryz.prog H0 45 sWay2 := by
  intro args h Q hq
  unfold sWay2 at hq
  split at hq
  · rename_i n nl a b dir
    obtain ⟨⟨h0, h1, h2, h3, h4, hb, h5⟩, hQ⟩ := hyp_iff.1 hq
    subst hb
    refine in_ok (S := U2L2) (U := 6) (k := 6) okU2L2 (to (nfWay2 ..) ?_)
    have fin : ∀ (m : Nat) (rows : List (List AV)), (m : Int) = n - 2 ∧ rows = s_wayL n (s_last n a dir) dir m → chk (0 + m ≤ rows.length) (chk ((0 + (List.take m (List.drop 0 rows)).length) * 8 ≤ 140737488355328) (chk (0 + (List.take m (List.drop 0 rows)).length ≤ 9223372036854775807)
        (chk (0 + (0 + (List.take m (List.drop 0 rows)).length) ≤ ([] ++ List.take m (List.drop 0 rows)).length) (Q (AV.row false [K.int IntKind.i64] (List.take (0 + (List.take m (List.drop 0 rows)).length) (List.drop 0 ([] ++ List.take m (List.drop 0 rows)))), []))))) := fun m rows hm => by
      have hl : rows.length = m := by rw [hm.2, wayL_len]
      simp only [chk_iff, List.drop_zero, List.nil_append, Nat.zero_add, List.take_of_length_le (Nat.le_of_eq hl), hl, List.take_of_length_le (Nat.le_of_eq hl)]
      exact ⟨Nat.le_refl _, by omega, by omega, Nat.le_refl _, hQ m rows hm⟩
    refine br_intro (fun c => absurd (of_decide_eq_true c) (by omega)) fun _ => br_intro (fun c => absurd (of_decide_eq_true c) (by omega)) fun _ => br_intro (fun c => ?_) fun c => ?_
    · exact hyp_iff.2 ⟨⟨rfl, by unfold s_last; rw [if_pos (beq_iff_eq.1 c)], h1, h2, h3, h4, rfl, h5⟩, fin⟩
    · exact hyp_iff.2 ⟨⟨rfl, by unfold s_last; rw [if_neg (beq_eq_false_iff_ne.1 c)], h1, h2, h3, h4, rfl, h5⟩, fin⟩
  · exact hq.elim
theorem okWay0 : OkS Tryz.prog H0 45 sWay0 := by
  intro args h Q hq
  unfold sWay0 at hq
  split at hq
  · exact in_ok (S := U2) (U := 6) (k := 6) okU2 (to (nfWay0 ..) hq)
  · exact hq.elim
end Go.Proofs.YtiemjcchlfbglaaGreatE
