/- The document's reader of a script's bytes. -/
import Derived.Test.YthihinlamlamhaaBbB
import Derived.KernelRfl
namespace Go.Proofs.YthihinlamlamhaaE
open Go
set_option linter.unusedVariables false

def sNextR : SW := fun args h Q => match args, h with
  | [.ptr 0 0], [.box [.row nl [.int .u8] rs, .int .i64 p]] => Hyp (0 ≤ p ∧ p ≤ 1000000 ∧ s_bytes rs) ∧ Q (.int .i64 (s_at rs p.toNat), [.box [.row nl [.int .u8] rs, .int .i64 (p + 1)]])
  | _, _ => False
def sOfR : SW := fun args h Q => match args, h with
  | [.ptr 0 0, .int .i64 n], [.box [.row nl [.int .u8] rs, .int .i64 p]] => chk (n ≠ 0) (Hyp (0 ≤ p ∧ p ≤ 1000000 ∧ s_bytes rs) ∧ Q (.int .i64 ((s_at rs p.toNat).tmod n), [.box [.row nl [.int .u8] rs, .int .i64 (p + 1)]]))
  | _, _ => False
/-- The inner loop of the acts: one act's symbols. -/
def lTextR : LW := fun vals h Q => match vals, h with
  | [.ptr 0 0, .nils, .int .i64 n, .int .i64 i, .ptr 1 0, .int .i64 m, .int .i64 c], [.box [.row nl [.int .u8] rs, .int .i64 p], .box [.int .i64 how, .int .i64 x, .str s]] =>
    Hyp (0 ≤ p ∧ p + m - c ≤ 1000000 ∧ 0 ≤ c ∧ c ≤ m ∧ m ≤ 1000 ∧ s.size = c ∧ s_bytes rs) ∧ Q (.exit 2) [.ptr 0 0, .nils, .int .i64 n, .int .i64 i, .ptr 1 0]
      [.box [.row nl [.int .u8] rs, .int .i64 (p + (m - c))], .box [.int .i64 how, .int .i64 x, .str (s_text rs (m - c).toNat p.toNat s)]]
  | [.ptr 0 0, .sl 1 0 j, .int .i64 n, .int .i64 i, .ptr 2 0, .int .i64 m, .int .i64 c], [.box [.row nl [.int .u8] rs, .int .i64 p], .arr 2 47 [.int .i64, .int .i64, .str] rows, .box [.int .i64 how, .int .i64 x, .str s]] =>
    Hyp (0 ≤ p ∧ p + m - c ≤ 1000000 ∧ 0 ≤ c ∧ c ≤ m ∧ m ≤ 1000 ∧ s.size = c ∧ s_bytes rs) ∧ Q (.exit 2) [.ptr 0 0, .sl 1 0 j, .int .i64 n, .int .i64 i, .ptr 2 0]
      [.box [.row nl [.int .u8] rs, .int .i64 (p + (m - c))], .arr 2 47 [.int .i64, .int .i64, .str] rows, .box [.int .i64 how, .int .i64 x, .str (s_text rs (m - c).toNat p.toNat s)]]
  | _, _ => False
/-- The outer one: so many acts, none yet, or some. -/
def lActsR : LW := fun vals h Q => match vals, h with
  | [.ptr 0 0, .nils, .int .i64 n, .int .i64 i], [.box [.row nl [.int .u8] rs, .int .i64 p]] =>
    Hyp (i = 0 ∧ 0 ≤ n ∧ n ≤ 100 ∧ 0 ≤ p ∧ p ≤ 10000 ∧ s_bytes rs) ∧ ((n = 0 → Q (.exit 0) [.nils] [.box [.row nl [.int .u8] rs, .int .i64 p]]) ∧
      (∀ rows', rows' = s_acts (s_drop p.toNat rs) n.toNat → ∀ p' : Int, p' = p + s_actsN (s_drop p.toNat rs) n.toNat → Q (.exit 0) [.sl 1 0 n.toNat] [.box [.row nl [.int .u8] rs, .int .i64 p'], .arr 2 47 [.int .i64, .int .i64, .str] rows']))
  | [.ptr 0 0, .sl 1 0 j, .int .i64 n, .int .i64 i], [.box [.row nl [.int .u8] rs, .int .i64 p], .arr 2 47 [.int .i64, .int .i64, .str] rows] =>
    (i = j ∧ i ≤ n ∧ n ≤ 100 ∧ 0 ≤ p ∧ p ≤ 10000 + 6 * i ∧ s_bytes rs ∧ rows.length = j) ∧
      (∀ rows', rows' = rows ++ s_acts (s_drop p.toNat rs) (n - i).toNat → ∀ p' : Int, p' = p + s_actsN (s_drop p.toNat rs) (n - i).toNat → Q (.exit 0) [.sl 1 0 n.toNat] [.box [.row nl [.int .u8] rs, .int .i64 p'], .arr 2 47 [.int .i64, .int .i64, .str] rows'])
  | _, _ => False
def sActsR : SW := fun args h Q => match args, h with
  | [.ptr 0 0], [.box [.row nl [.int .u8] rs, .int .i64 p]] => Hyp (0 ≤ p ∧ p ≤ 9000 ∧ s_bytes rs) ∧ ∀ (nl' : Bool) (k : Nat), k = ((s_at rs p.toNat).tmod 8).toNat →
      Q (.row nl' [.int .i64, .int .i64, .str] (s_acts (s_drop (p.toNat + 1) rs) k), [.box [.row nl [.int .u8] rs, .int .i64 (p + 1 + s_actsN (s_drop (p.toNat + 1) rs) k)]])
  | _, _ => False
def sSignedR : SW := fun args h Q => match args, h with
  | [.ptr 0 0, .int .i64 8, .int .i64 t], [.box [.row nl [.int .u8] rs, .int .i64 p]] => Hyp (0 ≤ p ∧ p ≤ 9000 ∧ s_bytes rs) ∧ Q (.row false [.int .i64] (s_rowi (s_sg (s_drop p.toNat rs) t 8)), [.box [.row nl [.int .u8] rs, .int .i64 (p + 8)]])
  | [.ptr 0 0, .int .i64 4, .int .i64 t], [.box [.row nl [.int .u8] rs, .int .i64 p]] => Hyp (0 ≤ p ∧ p ≤ 9000 ∧ s_bytes rs) ∧ Q (.row false [.int .i64] (s_rowi (s_sg (s_drop p.toNat rs) t 4)), [.box [.row nl [.int .u8] rs, .int .i64 (p + 4)]])
  | _, _ => False
def T1 : Sp := ⟨(31, sNextR) :: S7.fn, []⟩
def T2 : Sp := ⟨(29, sOfR) :: T1.fn, []⟩
def T2L : Sp := ⟨T2.fn, [(32, 1010, lTextR)]⟩
def T2M : Sp := ⟨T2.fn, [(32, 1004, lActsR), (32, 1010, lTextR)]⟩
def T3 : Sp := ⟨(32, sActsR) :: (30, sSignedR) :: T2.fn, []⟩
end Go.Proofs.YthihinlamlamhaaE
/- What path mode says of functions, printed by a program of this session; the kernel holds each. -/
namespace Go.Proofs.YthihinlamlamhaaE
open Go
set_option maxRecDepth 100000
set_option linter.unusedVariables false
theorem nf31 (p : Int) (nl : Bool) (rs : List (List AV)) (Q : AV × List AObj → Prop) : inlW Try.prog H0 S7 6 (InO Try.prog H0 S7 6 6) 31 [.ptr 0 0] [.box [.row nl [.int .u8] rs, .int .i64 p]] Q = (
br (decide (IntKind.i64.wrap (p + (1 : Int)) > (↑rs.length : Int)))
 (Q ((AV.int IntKind.i64 (0 : Int),
  [AObj.box [AV.row nl [K.int IntKind.u8] rs, AV.int IntKind.i64 (IntKind.i64.wrap (p + (1 : Int)))]])))
 (chk ((0 : Int) ≤ IntKind.i64.wrap (IntKind.i64.wrap (p + (1 : Int)) - (1 : Int)) ∧
  IntKind.i64.wrap (IntKind.i64.wrap (p + (1 : Int)) - (1 : Int)) < (↑rs.length : Int)) (Q ((AV.int IntKind.i64
    (IntKind.i64.wrap
      ((rs.getD (IntKind.i64.wrap (IntKind.i64.wrap (p + (1 : Int)) - (1 : Int))).toNat []).getD (0 : Nat)
          AV.gone).toI),
  [AObj.box [AV.row nl [K.int IntKind.u8] rs, AV.int IntKind.i64 (IntKind.i64.wrap (p + (1 : Int)))]]))))) := by kernel_rfl
theorem nf29 (n p : Int) (nl : Bool) (rs : List (List AV)) (Q : AV × List AObj → Prop) : inlW Try.prog H0 T1 6 (InO Try.prog H0 T1 6 6) 29 [.ptr 0 0, .int .i64 n] [.box [.row nl [.int .u8] rs, .int .i64 p]] Q = (
((Hyp ((0 : Int) ≤ p ∧ p ≤ (1000000 : Int) ∧ s_bytes rs)) ∧
(chk (n ≠ (0 : Int)) (Q ((AV.int IntKind.i64 ((s_at rs p.toNat).tmod n),
  [AObj.box [AV.row nl [K.int IntKind.u8] rs, AV.int IntKind.i64 (p + (1 : Int))]])))))) := by kernel_rfl
theorem nf32a (p n i m c how x : Int) (s : ByteArray) (nl : Bool) (rs : List (List AV)) (Q : Ex → List AV → List AObj → Prop) : lpBody Try.prog H0 T2 6 6 32 1010 [.ptr 0 0, .nils, .int .i64 n, .int .i64 i, .ptr 1 0, .int .i64 m, .int .i64 c] [.box [.row nl [.int .u8] rs, .int .i64 p], .box [.int .i64 how, .int .i64 x, .str s]] Q = (
br (decide (c < m))
 (((Hyp ((0 : Int) ≤ p ∧ p ≤ (1000000 : Int) ∧ s_bytes rs)) ∧
 (chk ((0 : Int) ≤ (s_at rs p.toNat).tmod (3 : Int) ∧ (s_at rs p.toNat).tmod (3 : Int) < (3 : Int)) (chk ((0 : Nat) + ((s_at rs p.toNat).tmod (3 : Int)).toNat < (3 : Nat)) (chk ((s.size +
        (([[AV.str (ByteArray.mk #[(48 : UInt8)])], [AV.str (ByteArray.mk #[(49 : UInt8)])],
                      [AV.str (ByteArray.mk #[(35 : UInt8)])]].getD
                  ((0 : Nat) + ((s_at rs p.toNat).tmod (3 : Int)).toNat) []).getD
              (0 : Nat) AV.gone).toS.size).ble
    (9223372036854775807 : Nat) =
  true) (Q (Ex.nrm) ([AV.ptr (0 : Nat) (0 : Nat), AV.nils, AV.int IntKind.i64 n, AV.int IntKind.i64 i, AV.ptr (1 : Nat) (0 : Nat),
  AV.int IntKind.i64 m, AV.int IntKind.i64 (IntKind.i64.wrap (c + (1 : Int)))]) ([AObj.box [AV.row nl [K.int IntKind.u8] rs, AV.int IntKind.i64 (p + (1 : Int))],
  AObj.box
    [AV.int IntKind.i64 how, AV.int IntKind.i64 x,
      AV.str
        (s ++
          (([[AV.str (ByteArray.mk #[(48 : UInt8)])], [AV.str (ByteArray.mk #[(49 : UInt8)])],
                      [AV.str (ByteArray.mk #[(35 : UInt8)])]].getD
                  ((0 : Nat) + ((s_at rs p.toNat).tmod (3 : Int)).toNat) []).getD
              (0 : Nat) AV.gone).toS)]])))))))
 (Q (Ex.exit (2 : Nat)) ([AV.ptr (0 : Nat) (0 : Nat), AV.nils, AV.int IntKind.i64 n, AV.int IntKind.i64 i, AV.ptr (1 : Nat) (0 : Nat)]) ([AObj.box [AV.row nl [K.int IntKind.u8] rs, AV.int IntKind.i64 p],
  AObj.box [AV.int IntKind.i64 how, AV.int IntKind.i64 x, AV.str s]]))) := by kernel_rfl
theorem nf32b (p n i m c how x : Int) (j : Nat) (s : ByteArray) (nl : Bool) (rs rows : List (List AV)) (Q : Ex → List AV → List AObj → Prop) : lpBody Try.prog H0 T2 6 6 32 1010 [.ptr 0 0, .sl 1 0 j, .int .i64 n, .int .i64 i, .ptr 2 0, .int .i64 m, .int .i64 c] [.box [.row nl [.int .u8] rs, .int .i64 p], .arr 2 47 [.int .i64, .int .i64, .str] rows, .box [.int .i64 how, .int .i64 x, .str s]] Q = (
br (decide (c < m))
 (((Hyp ((0 : Int) ≤ p ∧ p ≤ (1000000 : Int) ∧ s_bytes rs)) ∧
 (chk ((0 : Int) ≤ (s_at rs p.toNat).tmod (3 : Int) ∧ (s_at rs p.toNat).tmod (3 : Int) < (3 : Int)) (chk ((0 : Nat) + ((s_at rs p.toNat).tmod (3 : Int)).toNat < (3 : Nat)) (chk ((s.size +
        (([[AV.str (ByteArray.mk #[(48 : UInt8)])], [AV.str (ByteArray.mk #[(49 : UInt8)])],
                      [AV.str (ByteArray.mk #[(35 : UInt8)])]].getD
                  ((0 : Nat) + ((s_at rs p.toNat).tmod (3 : Int)).toNat) []).getD
              (0 : Nat) AV.gone).toS.size).ble
    (9223372036854775807 : Nat) =
  true) (Q (Ex.nrm) ([AV.ptr (0 : Nat) (0 : Nat), AV.sl (1 : Nat) (0 : Nat) j, AV.int IntKind.i64 n, AV.int IntKind.i64 i,
  AV.ptr (2 : Nat) (0 : Nat), AV.int IntKind.i64 m, AV.int IntKind.i64 (IntKind.i64.wrap (c + (1 : Int)))]) ([AObj.box [AV.row nl [K.int IntKind.u8] rs, AV.int IntKind.i64 (p + (1 : Int))],
  AObj.arr (2 : Nat) (47 : Nat) [K.int IntKind.i64, K.int IntKind.i64, K.str] rows,
  AObj.box
    [AV.int IntKind.i64 how, AV.int IntKind.i64 x,
      AV.str
        (s ++
          (([[AV.str (ByteArray.mk #[(48 : UInt8)])], [AV.str (ByteArray.mk #[(49 : UInt8)])],
                      [AV.str (ByteArray.mk #[(35 : UInt8)])]].getD
                  ((0 : Nat) + ((s_at rs p.toNat).tmod (3 : Int)).toNat) []).getD
              (0 : Nat) AV.gone).toS)]])))))))
 (Q (Ex.exit (2 : Nat)) ([AV.ptr (0 : Nat) (0 : Nat), AV.sl (1 : Nat) (0 : Nat) j, AV.int IntKind.i64 n, AV.int IntKind.i64 i,
  AV.ptr (2 : Nat) (0 : Nat)]) ([AObj.box [AV.row nl [K.int IntKind.u8] rs, AV.int IntKind.i64 p],
  AObj.arr (2 : Nat) (47 : Nat) [K.int IntKind.i64, K.int IntKind.i64, K.str] rows,
  AObj.box [AV.int IntKind.i64 how, AV.int IntKind.i64 x, AV.str s]]))) := by kernel_rfl
theorem nf32c (p n i : Int) (nl : Bool) (rs : List (List AV)) (Q : Ex → List AV → List AObj → Prop) : lpBody Try.prog H0 T2L 6 6 32 1004 [.ptr 0 0, .nils, .int .i64 n, .int .i64 i] [.box [.row nl [.int .u8] rs, .int .i64 p]] Q = (
br (decide (i < n))
 (((Hyp ((0 : Int) ≤ p ∧ p ≤ (1000000 : Int) ∧ s_bytes rs)) ∧
 (((Hyp ((0 : Int) ≤ p + (1 : Int) ∧ p + (1 : Int) ≤ (1000000 : Int) ∧ s_bytes rs)) ∧
 (((Hyp ((0 : Int) ≤ p + (1 : Int) + (1 : Int) ∧ p + (1 : Int) + (1 : Int) ≤ (1000000 : Int) ∧ s_bytes rs)) ∧
 (((Hyp ((0 : Int) ≤ p + (1 : Int) + (1 : Int) + (1 : Int) ∧
  p + (1 : Int) + (1 : Int) + (1 : Int) + (s_at rs (p + (1 : Int) + (1 : Int)).toNat).tmod (4 : Int) - (0 : Int) ≤
      (1000000 : Int) ∧
    (0 : Int) ≤ (0 : Int) ∧
      (0 : Int) ≤ (s_at rs (p + (1 : Int) + (1 : Int)).toNat).tmod (4 : Int) ∧
        (s_at rs (p + (1 : Int) + (1 : Int)).toNat).tmod (4 : Int) ≤ (1000 : Int) ∧ (0 : Int) = (0 : Int) ∧ s_bytes rs)) ∧
 (Q (Ex.nrm) ([AV.ptr (0 : Nat) (0 : Nat), AV.sl (1 : Nat) (0 : Nat) (1 : Nat), AV.int IntKind.i64 n,
  AV.int IntKind.i64 (IntKind.i64.wrap (i + (1 : Int)))]) ([AObj.box
    [AV.row nl [K.int IntKind.u8] rs,
      AV.int IntKind.i64
        (p + (1 : Int) + (1 : Int) + (1 : Int) +
          ((s_at rs (p + (1 : Int) + (1 : Int)).toNat).tmod (4 : Int) - (0 : Int)))],
  AObj.arr (2 : Nat) (47 : Nat) [K.int IntKind.i64, K.int IntKind.i64, K.str]
    [[AV.int IntKind.i64 ((s_at rs p.toNat).tmod (7 : Int)), AV.int IntKind.i64 (s_at rs (p + (1 : Int)).toNat),
        AV.str
          (s_text rs ((s_at rs (p + (1 : Int) + (1 : Int)).toNat).tmod (4 : Int) - (0 : Int)).toNat
            (p + (1 : Int) + (1 : Int) + (1 : Int)).toNat (ByteArray.mk #[]))]]]))))))))))
 (Q (Ex.exit (0 : Nat)) ([AV.nils]) ([AObj.box [AV.row nl [K.int IntKind.u8] rs, AV.int IntKind.i64 p]]))) := by kernel_rfl
theorem nf32d (p n i : Int) (j : Nat) (nl : Bool) (rs rows : List (List AV)) (Q : Ex → List AV → List AObj → Prop) : lpBody Try.prog H0 T2L 6 6 32 1004 [.ptr 0 0, .sl 1 0 j, .int .i64 n, .int .i64 i] [.box [.row nl [.int .u8] rs, .int .i64 p], .arr 2 47 [.int .i64, .int .i64, .str] rows] Q = (
br (decide (i < n))
 (((Hyp ((0 : Int) ≤ p ∧ p ≤ (1000000 : Int) ∧ s_bytes rs)) ∧
 (((Hyp ((0 : Int) ≤ p + (1 : Int) ∧ p + (1 : Int) ≤ (1000000 : Int) ∧ s_bytes rs)) ∧
 (((Hyp ((0 : Int) ≤ p + (1 : Int) + (1 : Int) ∧ p + (1 : Int) + (1 : Int) ≤ (1000000 : Int) ∧ s_bytes rs)) ∧
 (((Hyp ((0 : Int) ≤ p + (1 : Int) + (1 : Int) + (1 : Int) ∧
  p + (1 : Int) + (1 : Int) + (1 : Int) + (s_at rs (p + (1 : Int) + (1 : Int)).toNat).tmod (4 : Int) - (0 : Int) ≤
      (1000000 : Int) ∧
    (0 : Int) ≤ (0 : Int) ∧
      (0 : Int) ≤ (s_at rs (p + (1 : Int) + (1 : Int)).toNat).tmod (4 : Int) ∧
        (s_at rs (p + (1 : Int) + (1 : Int)).toNat).tmod (4 : Int) ≤ (1000 : Int) ∧ (0 : Int) = (0 : Int) ∧ s_bytes rs)) ∧
 (chk (j = rows.length) (chk ((rows.length + (1 : Nat)) * (32 : Nat) ≤ (140737488355328 : Nat)) (chk (rows.length + (1 : Nat) ≤ (9223372036854775807 : Nat)) (Q (Ex.nrm) ([AV.ptr (0 : Nat) (0 : Nat), AV.sl (1 : Nat) (0 : Nat) (rows.length + (1 : Nat)), AV.int IntKind.i64 n,
  AV.int IntKind.i64 (IntKind.i64.wrap (i + (1 : Int)))]) ([AObj.box
    [AV.row nl [K.int IntKind.u8] rs,
      AV.int IntKind.i64
        (p + (1 : Int) + (1 : Int) + (1 : Int) +
          ((s_at rs (p + (1 : Int) + (1 : Int)).toNat).tmod (4 : Int) - (0 : Int)))],
  AObj.arr (2 : Nat) (47 : Nat) [K.int IntKind.i64, K.int IntKind.i64, K.str]
    (rows ++
      [[AV.int IntKind.i64 ((s_at rs p.toNat).tmod (7 : Int)), AV.int IntKind.i64 (s_at rs (p + (1 : Int)).toNat),
          AV.str
            (s_text rs ((s_at rs (p + (1 : Int) + (1 : Int)).toNat).tmod (4 : Int) - (0 : Int)).toNat
              (p + (1 : Int) + (1 : Int) + (1 : Int)).toNat (ByteArray.mk #[]))]])])))))))))))))
 (Q (Ex.exit (0 : Nat)) ([AV.sl (1 : Nat) (0 : Nat) j]) ([AObj.box [AV.row nl [K.int IntKind.u8] rs, AV.int IntKind.i64 p],
  AObj.arr (2 : Nat) (47 : Nat) [K.int IntKind.i64, K.int IntKind.i64, K.str] rows]))) := by kernel_rfl
theorem nf32 (p : Int) (nl : Bool) (rs : List (List AV)) (Q : AV × List AObj → Prop) : inlW Try.prog H0 T2M 6 (InO Try.prog H0 T2M 6 6) 32 [.ptr 0 0] [.box [.row nl [.int .u8] rs, .int .i64 p]] Q = (
((Hyp ((0 : Int) ≤ p ∧ p ≤ (1000000 : Int) ∧ s_bytes rs)) ∧
(((Hyp ((0 : Int) = (0 : Int) ∧
  (0 : Int) ≤ (s_at rs p.toNat).tmod (8 : Int) ∧
    (s_at rs p.toNat).tmod (8 : Int) ≤ (100 : Int) ∧
      (0 : Int) ≤ p + (1 : Int) ∧ p + (1 : Int) ≤ (10000 : Int) ∧ s_bytes rs)) ∧
((((((s_at rs p.toNat).tmod (8 : Int) = (0 : Int)) →
Q ((AV.row true [K.int IntKind.i64, K.int IntKind.i64, K.str] [],
  [AObj.box [AV.row nl [K.int IntKind.u8] rs, AV.int IntKind.i64 (p + (1 : Int))]])))) ∧
((∀ (rows'103 : List (List AV)),
((rows'103 = s_acts (s_drop (p + (1 : Int)).toNat rs) ((s_at rs p.toNat).tmod (8 : Int)).toNat) →
(∀ (p'105 : Int),
((p'105 = p + (1 : Int) + (↑(s_actsN (s_drop (p + (1 : Int)).toNat rs) ((s_at rs p.toNat).tmod (8 : Int)).toNat) : Int)) →
chk ((0 : Nat) + ((s_at rs p.toNat).tmod (8 : Int)).toNat ≤ rows'103.length) (Q ((AV.row false [K.int IntKind.i64, K.int IntKind.i64, K.str]
    (List.take ((s_at rs p.toNat).tmod (8 : Int)).toNat (List.drop (0 : Nat) rows'103)),
  [AObj.box [AV.row nl [K.int IntKind.u8] rs, AV.int IntKind.i64 p'105]])))))))))))))) := by kernel_rfl
theorem nf30a (p t : Int) (nl : Bool) (rs : List (List AV)) (Q : AV × List AObj → Prop) : inlW Try.prog H0 T2 10 (InO Try.prog H0 T2 10 6) 30 [.ptr 0 0, .int .i64 8, .int .i64 t] [.box [.row nl [.int .u8] rs, .int .i64 p]] Q = (
((Hyp ((0 : Int) ≤ p ∧ p ≤ (1000000 : Int) ∧ s_bytes rs)) ∧
(((Hyp ((0 : Int) ≤ p + (1 : Int) ∧ p + (1 : Int) ≤ (1000000 : Int) ∧ s_bytes rs)) ∧
(((Hyp ((0 : Int) ≤ p + (1 : Int) + (1 : Int) ∧ p + (1 : Int) + (1 : Int) ≤ (1000000 : Int) ∧ s_bytes rs)) ∧
(((Hyp ((0 : Int) ≤ p + (1 : Int) + (1 : Int) + (1 : Int) ∧ p + (1 : Int) + (1 : Int) + (1 : Int) ≤ (1000000 : Int) ∧ s_bytes rs)) ∧
(((Hyp ((0 : Int) ≤ p + (1 : Int) + (1 : Int) + (1 : Int) + (1 : Int) ∧
  p + (1 : Int) + (1 : Int) + (1 : Int) + (1 : Int) ≤ (1000000 : Int) ∧ s_bytes rs)) ∧
(((Hyp ((0 : Int) ≤ p + (1 : Int) + (1 : Int) + (1 : Int) + (1 : Int) + (1 : Int) ∧
  p + (1 : Int) + (1 : Int) + (1 : Int) + (1 : Int) + (1 : Int) ≤ (1000000 : Int) ∧ s_bytes rs)) ∧
(((Hyp ((0 : Int) ≤ p + (1 : Int) + (1 : Int) + (1 : Int) + (1 : Int) + (1 : Int) + (1 : Int) ∧
  p + (1 : Int) + (1 : Int) + (1 : Int) + (1 : Int) + (1 : Int) + (1 : Int) ≤ (1000000 : Int) ∧ s_bytes rs)) ∧
(((Hyp ((0 : Int) ≤ p + (1 : Int) + (1 : Int) + (1 : Int) + (1 : Int) + (1 : Int) + (1 : Int) + (1 : Int) ∧
  p + (1 : Int) + (1 : Int) + (1 : Int) + (1 : Int) + (1 : Int) + (1 : Int) + (1 : Int) ≤ (1000000 : Int) ∧ s_bytes rs)) ∧
(Q ((AV.row false [K.int IntKind.i64]
    [[AV.int IntKind.i64 (IntKind.i64.wrap (IntKind.i64.wrap (s_at rs p.toNat - (128 : Int)) * t))],
      [AV.int IntKind.i64 (IntKind.i64.wrap (IntKind.i64.wrap (s_at rs (p + (1 : Int)).toNat - (128 : Int)) * t))],
      [AV.int IntKind.i64
          (IntKind.i64.wrap (IntKind.i64.wrap (s_at rs (p + (1 : Int) + (1 : Int)).toNat - (128 : Int)) * t))],
      [AV.int IntKind.i64
          (IntKind.i64.wrap
            (IntKind.i64.wrap (s_at rs (p + (1 : Int) + (1 : Int) + (1 : Int)).toNat - (128 : Int)) * t))],
      [AV.int IntKind.i64
          (IntKind.i64.wrap
            (IntKind.i64.wrap (s_at rs (p + (1 : Int) + (1 : Int) + (1 : Int) + (1 : Int)).toNat - (128 : Int)) * t))],
      [AV.int IntKind.i64
          (IntKind.i64.wrap
            (IntKind.i64.wrap
                (s_at rs (p + (1 : Int) + (1 : Int) + (1 : Int) + (1 : Int) + (1 : Int)).toNat - (128 : Int)) *
              t))],
      [AV.int IntKind.i64
          (IntKind.i64.wrap
            (IntKind.i64.wrap
                (s_at rs (p + (1 : Int) + (1 : Int) + (1 : Int) + (1 : Int) + (1 : Int) + (1 : Int)).toNat -
                  (128 : Int)) *
              t))],
      [AV.int IntKind.i64
          (IntKind.i64.wrap
            (IntKind.i64.wrap
                (s_at rs (p + (1 : Int) + (1 : Int) + (1 : Int) + (1 : Int) + (1 : Int) + (1 : Int) + (1 : Int)).toNat -
                  (128 : Int)) *
              t))]],
  [AObj.box
      [AV.row nl [K.int IntKind.u8] rs,
        AV.int IntKind.i64
          (p + (1 : Int) + (1 : Int) + (1 : Int) + (1 : Int) + (1 : Int) + (1 : Int) + (1 : Int) + (1 : Int))]]))))))))))))))))))) := by kernel_rfl
theorem nf30b (p t : Int) (nl : Bool) (rs : List (List AV)) (Q : AV × List AObj → Prop) : inlW Try.prog H0 T2 10 (InO Try.prog H0 T2 10 6) 30 [.ptr 0 0, .int .i64 4, .int .i64 t] [.box [.row nl [.int .u8] rs, .int .i64 p]] Q = (
((Hyp ((0 : Int) ≤ p ∧ p ≤ (1000000 : Int) ∧ s_bytes rs)) ∧
(((Hyp ((0 : Int) ≤ p + (1 : Int) ∧ p + (1 : Int) ≤ (1000000 : Int) ∧ s_bytes rs)) ∧
(((Hyp ((0 : Int) ≤ p + (1 : Int) + (1 : Int) ∧ p + (1 : Int) + (1 : Int) ≤ (1000000 : Int) ∧ s_bytes rs)) ∧
(((Hyp ((0 : Int) ≤ p + (1 : Int) + (1 : Int) + (1 : Int) ∧ p + (1 : Int) + (1 : Int) + (1 : Int) ≤ (1000000 : Int) ∧ s_bytes rs)) ∧
(Q ((AV.row false [K.int IntKind.i64]
    [[AV.int IntKind.i64 (IntKind.i64.wrap (IntKind.i64.wrap (s_at rs p.toNat - (128 : Int)) * t))],
      [AV.int IntKind.i64 (IntKind.i64.wrap (IntKind.i64.wrap (s_at rs (p + (1 : Int)).toNat - (128 : Int)) * t))],
      [AV.int IntKind.i64
          (IntKind.i64.wrap (IntKind.i64.wrap (s_at rs (p + (1 : Int) + (1 : Int)).toNat - (128 : Int)) * t))],
      [AV.int IntKind.i64
          (IntKind.i64.wrap
            (IntKind.i64.wrap (s_at rs (p + (1 : Int) + (1 : Int) + (1 : Int)).toNat - (128 : Int)) * t))]],
  [AObj.box [AV.row nl [K.int IntKind.u8] rs, AV.int IntKind.i64 (p + (1 : Int) + (1 : Int) + (1 : Int) + (1 : Int))]]))))))))))) := by kernel_rfl
end Go.Proofs.YthihinlamlamhaaE
/- The document's reader: the specs hold. -/
namespace Go.Proofs.YthihinlamlamhaaE
open Go
set_option linter.unusedVariables false
set_option linter.unusedSimpArgs false
set_option maxRecDepth 100000

theorem at_in {rs : List (List AV)} {i : Nat} (hi : i < rs.length) : s_at rs i = IntKind.i64.wrap ((rs.getD i []).getD 0 AV.gone).toI := by
  unfold s_at s_hd
  rw [if_neg (by rw [List.length_drop]; omega)]
  have : (rs.drop i).getD 0 [] = rs.getD i [] := by
    rw [List.getD_eq_getElem?_getD, List.getElem?_drop, List.getD_eq_getElem?_getD, Nat.add_zero]
  rw [this]
theorem at_out {rs : List (List AV)} {i : Nat} (hi : rs.length ≤ i) : s_at rs i = 0 := by
  unfold s_at s_hd
  rw [if_pos (by rw [List.length_drop]; omega)]
theorem ok31 : OkS Try.prog H0 31 sNextR := by
  intro args h Q hq
  unfold sNextR at hq
  split at hq
  · rename_i nl rs p
    obtain ⟨⟨h0, h1, h2⟩, hQ⟩ := hyp_iff.1 hq
    refine in_ok (S := S7) (U := 6) (k := 6) okS7 (to (nf31 ..) ?_)
    rw [wr (x := p + 1) (by omega) (by omega), wr (x := p + 1 - 1) (by omega) (by omega), show p + 1 - 1 = p by omega]
    refine br_intro (fun c => ?_) fun c => ?_
    · have c := of_decide_eq_true c
      rw [at_out (by omega)] at hQ; exact hQ
    · have c := of_decide_eq_false c
      rw [chk_iff]
      rw [at_in (by omega)] at hQ
      exact ⟨by omega, hQ⟩
  · exact hq.elim
theorem okT1 : OkSp Try.prog H0 T1 := ⟨⟨ok31, okS7.fn⟩, trivial⟩
theorem ok29 : OkS Try.prog H0 29 sOfR := by
  intro args h Q hq
  unfold sOfR at hq
  split at hq
  · obtain ⟨hn, hq2⟩ := chk_iff.1 hq
    refine in_ok (S := T1) (U := 6) (k := 6) okT1 (to (nf29 ..) ?_)
    refine ⟨hq2.1, ?_⟩
    rw [chk_iff]; exact ⟨hn, hq2.2⟩
  · exact hq.elim
theorem okT2 : OkSp Try.prog H0 T2 := ⟨⟨ok29, okT1.fn⟩, trivial⟩
theorem sym_form {x : Int} (h0 : 0 ≤ x) (h1 : x < 3) : (([[AV.str (ByteArray.mk #[(48 : UInt8)])], [AV.str (ByteArray.mk #[(49 : UInt8)])], [AV.str (ByteArray.mk #[(35 : UInt8)])]].getD ((0 : Nat) + x.toNat) []).getD (0 : Nat) AV.gone).toS =
    (if x = 0 then ⟨#[48]⟩ else if x = 1 then ⟨#[49]⟩ else ⟨#[35]⟩ : ByteArray) := by
  have : x = 0 ∨ x = 1 ∨ x = 2 := by omega
  rcases this with e | e | e <;> rw [e] <;> decide +kernel
theorem sym_size (x : Int) : (if x = 0 then ⟨#[48]⟩ else if x = 1 then ⟨#[49]⟩ else ⟨#[35]⟩ : ByteArray).size = 1 := by
  split
  · rfl
  · split <;> rfl
theorem okLTextR : OkLp Try.prog H0 32 1010 lTextR := by
  refine okLp_of (U := 6) (k := 6) okT2 lTextR (fun vals _ => match vals with | [_, _, _, _, _, .int _ m, .int _ c] => (m - c).toNat | _ => 0) fun vals h Q hl => ?_
  unfold lTextR at hl
  split at hl
  · rename_i n i m c nl rs p how x s
    obtain ⟨⟨h0, h1, h2, h3, h4, h5, h6⟩, hq⟩ := hyp_iff.1 hl
    have r3 := at_mod h6 p.toNat (show (0 : Int) < 3 by omega)
    refine to (nf32a ..) (br_intro (fun hc => ⟨.mk ⟨h0, by have := of_decide_eq_true hc; omega, h6⟩, ?_⟩) fun hc => ?_)
    · have hc := of_decide_eq_true hc
      rw [sym_form r3.1 r3.2, chk_iff, chk_iff, chk_iff, sym_size]
      refine ⟨r3, by omega, by rw [Nat.ble_eq]; omega, ?_⟩
      rw [wr (x := c + 1) (by omega) (by omega)]
      refine ⟨by show (m - (c + 1)).toNat < (m - c).toNat; omega, .mk ⟨by omega, by omega, by omega, by omega, h4, by rw [ByteArray.size_append, sym_size]; omega, h6⟩, ?_⟩
      rw [show (m - c).toNat = (m - (c + 1)).toNat + 1 by omega] at hq
      simp only [s_text] at hq
      rw [show p + 1 + (m - (c + 1)) = p + (m - c) by omega, show (p + 1).toNat = p.toNat + 1 by omega]
      exact hq
    · have hc := of_decide_eq_false hc
      rw [show m - c = 0 by omega, Int.add_zero] at hq; exact hq
  · rename_i j n i m c nl rs p rows how x s
    obtain ⟨⟨h0, h1, h2, h3, h4, h5, h6⟩, hq⟩ := hyp_iff.1 hl
    have r3 := at_mod h6 p.toNat (show (0 : Int) < 3 by omega)
    refine to (nf32b ..) (br_intro (fun hc => ⟨.mk ⟨h0, by have := of_decide_eq_true hc; omega, h6⟩, ?_⟩) fun hc => ?_)
    · have hc := of_decide_eq_true hc
      rw [sym_form r3.1 r3.2, chk_iff, chk_iff, chk_iff, sym_size]
      refine ⟨r3, by omega, by rw [Nat.ble_eq]; omega, ?_⟩
      rw [wr (x := c + 1) (by omega) (by omega)]
      refine ⟨by show (m - (c + 1)).toNat < (m - c).toNat; omega, .mk ⟨by omega, by omega, by omega, by omega, h4, by rw [ByteArray.size_append, sym_size]; omega, h6⟩, ?_⟩
      rw [show (m - c).toNat = (m - (c + 1)).toNat + 1 by omega] at hq
      simp only [s_text] at hq
      rw [show p + 1 + (m - (c + 1)) = p + (m - c) by omega, show (p + 1).toNat = p.toNat + 1 by omega]
      exact hq
    · have hc := of_decide_eq_false hc
      rw [show m - c = 0 by omega, Int.add_zero] at hq; exact hq
  · exact hl.elim
theorem okT2L : OkSp Try.prog H0 T2L := ⟨okT2.fn, okLTextR, trivial⟩
/-- One act, as the reader takes it. -/
theorem act_form (rs : List (List AV)) {p : Int} (hp : 0 ≤ p) : [AV.int IntKind.i64 ((s_at rs p.toNat).tmod 7), AV.int IntKind.i64 (s_at rs (p + 1).toNat), AV.str (s_text rs ((s_at rs (p + 1 + 1).toNat).tmod 4 - 0).toNat (p + 1 + 1 + 1).toNat (ByteArray.mk #[]))] = s_act (s_drop p.toNat rs) := by
  unfold s_act
  rw [at_drop, at_drop, at_drop, text_drop', show (p + 1).toNat = p.toNat + 1 by omega, show (p + 1 + 1).toNat = p.toNat + 2 by omega, show (p + 1 + 1 + 1).toNat = p.toNat + 3 by omega, Int.sub_zero]
  rfl
theorem actN_form (rs : List (List AV)) {p : Int} (hp : 0 ≤ p) (hb : s_bytes rs) : p + 1 + 1 + 1 + ((s_at rs (p + 1 + 1).toNat).tmod 4 - 0) = p + (s_actN (s_drop p.toNat rs) : Nat) ∧ s_actN (s_drop p.toNat rs) ≤ 6 := by
  unfold s_actN
  rw [at_drop, show (p + 1 + 1).toNat = p.toNat + 2 by omega]
  have := at_mod hb (p.toNat + 2) (show (0 : Int) < 4 by omega)
  constructor <;> omega
theorem okLActsR : OkLp Try.prog H0 32 1004 lActsR := by
  refine okLp_of (U := 6) (k := 6) okT2L lActsR (fun vals _ => match vals with | [_, _, .int _ n, .int _ i] => (n - i).toNat | _ => 0) fun vals h Q hl => ?_
  unfold lActsR at hl
  split at hl
  · rename_i n i nl rs p
    obtain ⟨⟨h0, h1, h2, h3, h4, h5⟩, hq1, hq2⟩ := hyp_iff.1 hl
    subst h0
    have r4 := at_mod h5 (p + 1 + 1).toNat (show (0 : Int) < 4 by omega)
    obtain ⟨a1, a2⟩ := actN_form rs h3 h5
    refine to (nf32c ..) (br_intro (fun hc => ⟨.mk ⟨h3, by omega, h5⟩, .mk ⟨by omega, by omega, h5⟩, .mk ⟨by omega, by omega, h5⟩, .mk ⟨by omega, by omega, by omega, r4.1, by omega, rfl, h5⟩, ?_⟩) fun hc => ?_)
    · have hc := of_decide_eq_true hc
      rw [act_form rs h3, a1, show IntKind.i64.wrap ((0 : Int) + 1) = 1 by decide]
      refine ⟨by show (n - 1).toNat < (n - 0).toNat; omega, ⟨rfl, by omega, h2, by omega, by omega, h5, rfl⟩, fun rows' hr p' hp' => ?_⟩
      have e : n.toNat = (n - 1).toNat + 1 := by omega
      have ed : (p + (s_actN (s_drop p.toNat rs) : Nat)).toNat = p.toNat + s_actN (s_drop p.toNat rs) := by omega
      refine hq2 rows' ?_ p' ?_
      · rw [hr, e]; simp only [s_acts]; rw [dd, ed]; rfl
      · rw [hp', e]; simp only [s_actsN]; rw [dd, ed]; omega
    · have hc := of_decide_eq_false hc
      exact hq1 (by omega)
  · rename_i j n i nl rs p rows
    obtain ⟨⟨h0, h1, h2, h3, h4, h5, h6⟩, hq2⟩ := hl
    subst h0
    have r4 := at_mod h5 (p + 1 + 1).toNat (show (0 : Int) < 4 by omega)
    obtain ⟨a1, a2⟩ := actN_form rs h3 h5
    refine to (nf32d ..) (br_intro (fun hc => ⟨.mk ⟨h3, by omega, h5⟩, .mk ⟨by omega, by omega, h5⟩, .mk ⟨by omega, by omega, h5⟩, .mk ⟨by omega, by omega, by omega, r4.1, by omega, rfl, h5⟩, ?_⟩) fun hc => ?_)
    · have hc := of_decide_eq_true hc
      rw [chk_iff, chk_iff, chk_iff]
      refine ⟨h6.symm, by omega, by omega, ?_⟩
      rw [act_form rs h3, a1, wr (x := (j : Int) + 1) (by omega) (by omega), h6]
      refine ⟨by show (n - ((j : Int) + 1)).toNat < (n - (j : Int)).toNat; omega, ⟨by omega, by omega, h2, by omega, by omega, h5, by rw [List.length_append, h6]; rfl⟩, fun rows' hr p' hp' => ?_⟩
      have e : (n - (j : Int)).toNat = (n - ((j : Int) + 1)).toNat + 1 := by omega
      have ed : (p + (s_actN (s_drop p.toNat rs) : Nat)).toNat = p.toNat + s_actN (s_drop p.toNat rs) := by omega
      refine hq2 rows' ?_ p' ?_
      · rw [hr, e]; simp only [s_acts]; rw [dd, ed, List.append_assoc]; rfl
      · rw [hp', e]; simp only [s_actsN]; rw [dd, ed]; omega
    · have hc := of_decide_eq_false hc
      have e : n = j := by omega
      subst e
      have := hq2 rows (by rw [Int.sub_self]; simp [s_acts]) p (by rw [Int.sub_self]; simp [s_actsN])
      rwa [show ((j : Int)).toNat = j by omega] at this
  · exact hl.elim
theorem okT2M : OkSp Try.prog H0 T2M := ⟨okT2.fn, okLActsR, okLTextR, trivial⟩
theorem ok32 : OkS Try.prog H0 32 sActsR := by
  intro args h Q hq
  unfold sActsR at hq
  split at hq
  · rename_i nl rs p
    obtain ⟨⟨h0, h1, h2⟩, hQ⟩ := hyp_iff.1 hq
    have r8 := at_mod h2 p.toNat (show (0 : Int) < 8 by omega)
    have ep : (p + 1).toNat = p.toNat + 1 := by omega
    refine in_ok (S := T2M) (U := 6) (k := 6) okT2M (to (nf32 ..) ⟨.mk ⟨h0, by omega, h2⟩, .mk ⟨rfl, r8.1, by omega, by omega, by omega, h2⟩, fun e => ?_, fun rows' hr p' hp' => ?_⟩)
    · have := hQ true 0 (by omega)
      simp only [s_acts, s_actsN] at this
      rw [show p + 1 + ((0 : Nat) : Int) = p + 1 by omega] at this
      exact this
    · have := hQ false _ rfl
      rw [ep] at hr hp'
      have hl := acts_len ((s_at rs p.toNat).tmod 8).toNat (s_drop (p.toNat + 1) rs)
      subst hr; subst hp'
      rw [chk_iff, List.drop_zero, List.take_of_length_le (by omega)]
      exact ⟨by omega, this⟩
  · exact hq.elim
theorem ok30 : OkS Try.prog H0 30 sSignedR := by
  intro args h Q hq
  unfold sSignedR at hq
  split at hq
  · rename_i t nl rs p
    obtain ⟨⟨h0, h1, h2⟩, hQ⟩ := hyp_iff.1 hq
    unfold s_rowi at hQ
    rw [sg_lit8] at hQ
    refine in_ok (S := T2) (U := 10) (k := 6) okT2 (to (nf30a ..) ?_)
    simp only [Int.add_assoc, Int.reduceAdd]
    rw [show (p + 1).toNat = p.toNat + 1 by omega, show (p + 2).toNat = p.toNat + 2 by omega, show (p + 3).toNat = p.toNat + 3 by omega, show (p + 4).toNat = p.toNat + 4 by omega, show (p + 5).toNat = p.toNat + 5 by omega, show (p + 6).toNat = p.toNat + 6 by omega, show (p + 7).toNat = p.toNat + 7 by omega]
    exact ⟨.mk ⟨h0, by omega, h2⟩, .mk ⟨by omega, by omega, h2⟩, .mk ⟨by omega, by omega, h2⟩, .mk ⟨by omega, by omega, h2⟩, .mk ⟨by omega, by omega, h2⟩, .mk ⟨by omega, by omega, h2⟩, .mk ⟨by omega, by omega, h2⟩, .mk ⟨by omega, by omega, h2⟩, hQ⟩
  · rename_i t nl rs p
    obtain ⟨⟨h0, h1, h2⟩, hQ⟩ := hyp_iff.1 hq
    unfold s_rowi at hQ
    rw [sg_lit] at hQ
    refine in_ok (S := T2) (U := 10) (k := 6) okT2 (to (nf30b ..) ?_)
    simp only [Int.add_assoc, Int.reduceAdd]
    rw [show (p + 1).toNat = p.toNat + 1 by omega, show (p + 2).toNat = p.toNat + 2 by omega, show (p + 3).toNat = p.toNat + 3 by omega]
    exact ⟨.mk ⟨h0, by omega, h2⟩, .mk ⟨by omega, by omega, h2⟩, .mk ⟨by omega, by omega, h2⟩, .mk ⟨by omega, by omega, h2⟩, hQ⟩
  · exact hq.elim
theorem okT3 : OkSp Try.prog H0 T3 := ⟨⟨ok32, ok30, okT2.fn⟩, trivial⟩
end Go.Proofs.YthihinlamlamhaaE
/- The document's script of bytes. -/
namespace Go.Proofs.YthihinlamlamhaaE
open Go
set_option linter.unusedVariables false

def lOnA (i n : Int) (pi e g fi : Int) (nl : Bool) (ps : List (List AV)) (nl2 : Bool) (rs : List (List AV)) (p : Int) (Q : Ex → List AV → List AObj → Prop) (C : AV) (rest : List AObj) : Prop := match C, rest with
  | .nils, [] => Hyp (i = 0 ∧ 1 ≤ n ∧ n ≤ 12 ∧ p = 0 ∧ s_bytes rs) ∧ ∀ rows', rows' = s_rowi (s_on rs n.toNat) → Q (.exit 0) [.ptr 0 0, .ptr 1 0, .ptr 2 0, .ptr 3 0]
      [.box [.int .i64 n, .int .i64 pi, .int .i64 e, .int .i64 g, .int .i64 fi, .row nl [.int .i64] ps], .box [.nils, .nils, .nils, .nils, .int .i64 0, .int .i64 0, .int .i64 0, .int .i64 0, .nils, .nils, .int .i64 0],
       .box [.row nl2 [.int .u8] rs, .int .i64 n], .box [.sl 4 0 n.toNat, .nils, .nils, .nils, .int .i64 0, .int .i64 0, .int .i64 0, .int .i64 0, .nils, .nils, .int .i64 0], .arr 2 3 [.int .i64] rows']
  | .sl 4 0 j, [.arr 2 3 [.int .i64] rows] => (i = j ∧ i ≤ n ∧ 1 ≤ n ∧ n ≤ 12 ∧ p = i ∧ s_bytes rs ∧ rows = s_rowi (s_on rs j)) ∧ ∀ rows', rows' = s_rowi (s_on rs n.toNat) → Q (.exit 0) [.ptr 0 0, .ptr 1 0, .ptr 2 0, .ptr 3 0]
      [.box [.int .i64 n, .int .i64 pi, .int .i64 e, .int .i64 g, .int .i64 fi, .row nl [.int .i64] ps], .box [.nils, .nils, .nils, .nils, .int .i64 0, .int .i64 0, .int .i64 0, .int .i64 0, .nils, .nils, .int .i64 0],
       .box [.row nl2 [.int .u8] rs, .int .i64 n], .box [.sl 4 0 n.toNat, .nils, .nils, .nils, .int .i64 0, .int .i64 0, .int .i64 0, .int .i64 0, .nils, .nils, .int .i64 0], .arr 2 3 [.int .i64] rows']
  | _, _ => False
def lOnR : LW := fun vals h Q => match vals, h with
  | [.ptr 0 0, .ptr 1 0, .ptr 2 0, .ptr 3 0, .int .i64 i], .box [.int .i64 n, .int .i64 pi, .int .i64 e, .int .i64 g, .int .i64 fi, .row nl [.int .i64] ps] :: .box [.nils, .nils, .nils, .nils, .int .i64 0, .int .i64 0, .int .i64 0, .int .i64 0, .nils, .nils, .int .i64 0] ::
      .box [.row nl2 [.int .u8] rs, .int .i64 p] :: .box [C, .nils, .nils, .nils, .int .i64 0, .int .i64 0, .int .i64 0, .int .i64 0, .nils, .nils, .int .i64 0] :: rest => lOnA i n pi e g fi nl ps nl2 rs p Q C rest
  | _, _ => False
def lClR (i m n np p k at_ fr to_ z : Int) (n0 : Nat) (nl2 a1 a2 a3 a4 : Bool) (rs r1 r2 r3 r4 : List (List AV)) (Q : Ex → List AV → List AObj → Prop) (C : AV) (rest : List AObj) : Prop := match C, rest with
  | .nils, [.arr 2 3 [.int .i64] r0] => Hyp (i = 0 ∧ 0 ≤ m ∧ m ≤ 100 ∧ n ≠ 0 ∧ 0 ≤ np ∧ np ≤ 100 ∧ 0 ≤ p ∧ p ≤ 100000 ∧ s_bytes rs) ∧
      ((m = 0 → Q (.exit 3) [.ptr 0 0, .ptr 1 0] [.box [.nils, .nils, .nils, .nils, .int .i64 0, .int .i64 0, .int .i64 0, .int .i64 0, .nils, .nils, .int .i64 0],
        .box [.sl 2 0 n0, .row a1 [.int .i64] r1, .row a2 [.int .i64] r2, .nils, .int .i64 k, .int .i64 at_, .int .i64 fr, .int .i64 to_, .row a3 [.int .i64, .int .i64, .str] r3, .row a4 [.int .i64] r4, .int .i64 z], .arr 2 3 [.int .i64] r0]) ∧
       (∀ rows', rows' = s_calls n np (s_drop p.toNat rs) m.toNat → Q (.exit 3) [.ptr 0 0, .ptr 1 0] [.box [.nils, .nils, .nils, .nils, .int .i64 0, .int .i64 0, .int .i64 0, .int .i64 0, .nils, .nils, .int .i64 0],
        .box [.sl 2 0 n0, .row a1 [.int .i64] r1, .row a2 [.int .i64] r2, .sl 3 0 m.toNat, .int .i64 k, .int .i64 at_, .int .i64 fr, .int .i64 to_, .row a3 [.int .i64, .int .i64, .str] r3, .row a4 [.int .i64] r4, .int .i64 z],
        .arr 2 3 [.int .i64] r0, .arr 2 43 [.int .i64, .int .i64, .int .i64, .int .i64] rows']))
  | .sl 5 0 j, [.arr 2 3 [.int .i64] r0, .arr 2 43 [.int .i64, .int .i64, .int .i64, .int .i64] rows] => (i = j ∧ i ≤ m ∧ m ≤ 100 ∧ n ≠ 0 ∧ 0 ≤ np ∧ np ≤ 100 ∧ 0 ≤ p ∧ p ≤ 100000 + 4 * i ∧ s_bytes rs ∧ rows.length = j) ∧
       (∀ rows', rows' = rows ++ s_calls n np (s_drop p.toNat rs) (m - i).toNat → Q (.exit 3) [.ptr 0 0, .ptr 1 0] [.box [.nils, .nils, .nils, .nils, .int .i64 0, .int .i64 0, .int .i64 0, .int .i64 0, .nils, .nils, .int .i64 0],
        .box [.sl 2 0 n0, .row a1 [.int .i64] r1, .row a2 [.int .i64] r2, .sl 3 0 m.toNat, .int .i64 k, .int .i64 at_, .int .i64 fr, .int .i64 to_, .row a3 [.int .i64, .int .i64, .str] r3, .row a4 [.int .i64] r4, .int .i64 z],
        .arr 2 3 [.int .i64] r0, .arr 2 43 [.int .i64, .int .i64, .int .i64, .int .i64] rows'])
  | _, _ => False
def lCallsR : LW := fun vals h Q => match vals, h with
  | [.ptr 0 0, .ptr 1 0, .ptr 2 0, .ptr 3 0, .int .i64 m, .int .i64 i], .box [.int .i64 n, .int .i64 pi, .int .i64 e, .int .i64 g, .int .i64 fi, .row nl [.int .i64] ps] ::
      .box [.nils, .nils, .nils, .nils, .int .i64 0, .int .i64 0, .int .i64 0, .int .i64 0, .nils, .nils, .int .i64 0] :: .box [.row nl2 [.int .u8] rs, .int .i64 p] ::
      .box [.sl 4 0 n0, .row a1 [.int .i64] r1, .row a2 [.int .i64] r2, C, .int .i64 k, .int .i64 at_, .int .i64 fr, .int .i64 to_, .row a3 [.int .i64, .int .i64, .str] r3, .row a4 [.int .i64] r4, .int .i64 z] :: rest =>
    lClR i m n ps.length p k at_ fr to_ z n0 nl2 a1 a2 a3 a4 rs r1 r2 r3 r4 Q C rest
  | _, _ => False
def T4 : Sp := ⟨T3.fn, [(13, 4, lOnR), (13, 23, lCallsR)]⟩
end Go.Proofs.YthihinlamlamhaaE
/- What path mode says of functions, printed by a program of this session; the kernel holds each. -/
namespace Go.Proofs.YthihinlamlamhaaE
open Go
set_option maxRecDepth 100000
set_option linter.unusedVariables false
theorem nf13a (i n pi e g fi p : Int) (nl nl2 : Bool) (ps rs : List (List AV)) (Q : Ex → List AV → List AObj → Prop) : lpBody Try.prog H0 T3 6 6 13 4 [.ptr 0 0, .ptr 1 0, .ptr 2 0, .ptr 3 0, .int .i64 i] [.box [.int .i64 n, .int .i64 pi, .int .i64 e, .int .i64 g, .int .i64 fi, .row nl [.int .i64] ps], .box [.nils, .nils, .nils, .nils, .int .i64 0, .int .i64 0, .int .i64 0, .int .i64 0, .nils, .nils, .int .i64 0], .box [.row nl2 [.int .u8] rs, .int .i64 p], .box [.nils, .nils, .nils, .nils, .int .i64 0, .int .i64 0, .int .i64 0, .int .i64 0, .nils, .nils, .int .i64 0]] Q = (
br (decide (i < n))
 (((Hyp ((0 : Int) ≤ p ∧ p ≤ (1000000 : Int) ∧ s_bytes rs)) ∧
 (Q (Ex.nrm) ([AV.ptr (0 : Nat) (0 : Nat), AV.ptr (1 : Nat) (0 : Nat), AV.ptr (2 : Nat) (0 : Nat), AV.ptr (3 : Nat) (0 : Nat),
  AV.int IntKind.i64 (IntKind.i64.wrap (i + (1 : Int)))]) ([AObj.box
    [AV.int IntKind.i64 n, AV.int IntKind.i64 pi, AV.int IntKind.i64 e, AV.int IntKind.i64 g, AV.int IntKind.i64 fi,
      AV.row nl [K.int IntKind.i64] ps],
  AObj.box
    [AV.nils, AV.nils, AV.nils, AV.nils, AV.int IntKind.i64 (0 : Int), AV.int IntKind.i64 (0 : Int),
      AV.int IntKind.i64 (0 : Int), AV.int IntKind.i64 (0 : Int), AV.nils, AV.nils, AV.int IntKind.i64 (0 : Int)],
  AObj.box [AV.row nl2 [K.int IntKind.u8] rs, AV.int IntKind.i64 (p + (1 : Int))],
  AObj.box
    [AV.sl (4 : Nat) (0 : Nat) (1 : Nat), AV.nils, AV.nils, AV.nils, AV.int IntKind.i64 (0 : Int),
      AV.int IntKind.i64 (0 : Int), AV.int IntKind.i64 (0 : Int), AV.int IntKind.i64 (0 : Int), AV.nils, AV.nils,
      AV.int IntKind.i64 (0 : Int)],
  AObj.arr (2 : Nat) (3 : Nat) [K.int IntKind.i64] [[AV.int IntKind.i64 ((s_at rs p.toNat).tmod (24 : Int))]]]))))
 (Q (Ex.exit (0 : Nat)) ([AV.ptr (0 : Nat) (0 : Nat), AV.ptr (1 : Nat) (0 : Nat), AV.ptr (2 : Nat) (0 : Nat), AV.ptr (3 : Nat) (0 : Nat)]) ([AObj.box
    [AV.int IntKind.i64 n, AV.int IntKind.i64 pi, AV.int IntKind.i64 e, AV.int IntKind.i64 g, AV.int IntKind.i64 fi,
      AV.row nl [K.int IntKind.i64] ps],
  AObj.box
    [AV.nils, AV.nils, AV.nils, AV.nils, AV.int IntKind.i64 (0 : Int), AV.int IntKind.i64 (0 : Int),
      AV.int IntKind.i64 (0 : Int), AV.int IntKind.i64 (0 : Int), AV.nils, AV.nils, AV.int IntKind.i64 (0 : Int)],
  AObj.box [AV.row nl2 [K.int IntKind.u8] rs, AV.int IntKind.i64 p],
  AObj.box
    [AV.nils, AV.nils, AV.nils, AV.nils, AV.int IntKind.i64 (0 : Int), AV.int IntKind.i64 (0 : Int),
      AV.int IntKind.i64 (0 : Int), AV.int IntKind.i64 (0 : Int), AV.nils, AV.nils, AV.int IntKind.i64 (0 : Int)]]))) := by kernel_rfl
theorem nf13b (i n pi e g fi p : Int) (nl nl2 : Bool) (ps rs : List (List AV)) (j : Nat) (rows : List (List AV)) (Q : Ex → List AV → List AObj → Prop) : lpBody Try.prog H0 T3 6 6 13 4 [.ptr 0 0, .ptr 1 0, .ptr 2 0, .ptr 3 0, .int .i64 i] [.box [.int .i64 n, .int .i64 pi, .int .i64 e, .int .i64 g, .int .i64 fi, .row nl [.int .i64] ps], .box [.nils, .nils, .nils, .nils, .int .i64 0, .int .i64 0, .int .i64 0, .int .i64 0, .nils, .nils, .int .i64 0], .box [.row nl2 [.int .u8] rs, .int .i64 p], .box [.sl 4 0 j, .nils, .nils, .nils, .int .i64 0, .int .i64 0, .int .i64 0, .int .i64 0, .nils, .nils, .int .i64 0], .arr 2 3 [.int .i64] rows] Q = (
br (decide (i < n))
 (((Hyp ((0 : Int) ≤ p ∧ p ≤ (1000000 : Int) ∧ s_bytes rs)) ∧
 (chk (j = rows.length) (chk ((rows.length + (1 : Nat)) * (8 : Nat) ≤ (140737488355328 : Nat)) (chk (rows.length + (1 : Nat) ≤ (9223372036854775807 : Nat)) (Q (Ex.nrm) ([AV.ptr (0 : Nat) (0 : Nat), AV.ptr (1 : Nat) (0 : Nat), AV.ptr (2 : Nat) (0 : Nat), AV.ptr (3 : Nat) (0 : Nat),
  AV.int IntKind.i64 (IntKind.i64.wrap (i + (1 : Int)))]) ([AObj.box
    [AV.int IntKind.i64 n, AV.int IntKind.i64 pi, AV.int IntKind.i64 e, AV.int IntKind.i64 g, AV.int IntKind.i64 fi,
      AV.row nl [K.int IntKind.i64] ps],
  AObj.box
    [AV.nils, AV.nils, AV.nils, AV.nils, AV.int IntKind.i64 (0 : Int), AV.int IntKind.i64 (0 : Int),
      AV.int IntKind.i64 (0 : Int), AV.int IntKind.i64 (0 : Int), AV.nils, AV.nils, AV.int IntKind.i64 (0 : Int)],
  AObj.box [AV.row nl2 [K.int IntKind.u8] rs, AV.int IntKind.i64 (p + (1 : Int))],
  AObj.box
    [AV.sl (4 : Nat) (0 : Nat) (rows.length + (1 : Nat)), AV.nils, AV.nils, AV.nils, AV.int IntKind.i64 (0 : Int),
      AV.int IntKind.i64 (0 : Int), AV.int IntKind.i64 (0 : Int), AV.int IntKind.i64 (0 : Int), AV.nils, AV.nils,
      AV.int IntKind.i64 (0 : Int)],
  AObj.arr (2 : Nat) (3 : Nat) [K.int IntKind.i64] (rows ++ [[AV.int IntKind.i64 ((s_at rs p.toNat).tmod (24 : Int))]])])))))))
 (Q (Ex.exit (0 : Nat)) ([AV.ptr (0 : Nat) (0 : Nat), AV.ptr (1 : Nat) (0 : Nat), AV.ptr (2 : Nat) (0 : Nat), AV.ptr (3 : Nat) (0 : Nat)]) ([AObj.box
    [AV.int IntKind.i64 n, AV.int IntKind.i64 pi, AV.int IntKind.i64 e, AV.int IntKind.i64 g, AV.int IntKind.i64 fi,
      AV.row nl [K.int IntKind.i64] ps],
  AObj.box
    [AV.nils, AV.nils, AV.nils, AV.nils, AV.int IntKind.i64 (0 : Int), AV.int IntKind.i64 (0 : Int),
      AV.int IntKind.i64 (0 : Int), AV.int IntKind.i64 (0 : Int), AV.nils, AV.nils, AV.int IntKind.i64 (0 : Int)],
  AObj.box [AV.row nl2 [K.int IntKind.u8] rs, AV.int IntKind.i64 p],
  AObj.box
    [AV.sl (4 : Nat) (0 : Nat) j, AV.nils, AV.nils, AV.nils, AV.int IntKind.i64 (0 : Int), AV.int IntKind.i64 (0 : Int),
      AV.int IntKind.i64 (0 : Int), AV.int IntKind.i64 (0 : Int), AV.nils, AV.nils, AV.int IntKind.i64 (0 : Int)],
  AObj.arr (2 : Nat) (3 : Nat) [K.int IntKind.i64] rows]))) := by kernel_rfl
theorem nf13c (i m n pi e g fi p k at_ fr to_ z : Int) (n0 : Nat) (nl nl2 a1 a2 a3 a4 : Bool) (ps rs r0 r1 r2 r3 r4 : List (List AV)) (Q : Ex → List AV → List AObj → Prop) : lpBody Try.prog H0 T3 6 6 13 23 [.ptr 0 0, .ptr 1 0, .ptr 2 0, .ptr 3 0, .int .i64 m, .int .i64 i] [.box [.int .i64 n, .int .i64 pi, .int .i64 e, .int .i64 g, .int .i64 fi, .row nl [.int .i64] ps], .box [.nils, .nils, .nils, .nils, .int .i64 0, .int .i64 0, .int .i64 0, .int .i64 0, .nils, .nils, .int .i64 0], .box [.row nl2 [.int .u8] rs, .int .i64 p], .box [.sl 4 0 n0, .row a1 [.int .i64] r1, .row a2 [.int .i64] r2, .nils, .int .i64 k, .int .i64 at_, .int .i64 fr, .int .i64 to_, .row a3 [.int .i64, .int .i64, .str] r3, .row a4 [.int .i64] r4, .int .i64 z], .arr 2 3 [.int .i64] r0] Q = (
br (decide (i < m))
 (((Hyp ((0 : Int) ≤ p ∧ p ≤ (1000000 : Int) ∧ s_bytes rs)) ∧
 (chk (n ≠ (0 : Int)) (((Hyp ((0 : Int) ≤ p + (1 : Int) ∧ p + (1 : Int) ≤ (1000000 : Int) ∧ s_bytes rs)) ∧
 (chk (IntKind.i64.wrap ((↑ps.length : Int) + (1 : Int)) ≠ (0 : Int)) (((Hyp ((0 : Int) ≤ p + (1 : Int) + (1 : Int) ∧ p + (1 : Int) + (1 : Int) ≤ (1000000 : Int) ∧ s_bytes rs)) ∧
 (((Hyp ((0 : Int) ≤ p + (1 : Int) + (1 : Int) + (1 : Int) ∧ p + (1 : Int) + (1 : Int) + (1 : Int) ≤ (1000000 : Int) ∧ s_bytes rs)) ∧
 (Q (Ex.nrm) ([AV.ptr (0 : Nat) (0 : Nat), AV.ptr (1 : Nat) (0 : Nat), AV.ptr (2 : Nat) (0 : Nat), AV.ptr (3 : Nat) (0 : Nat),
  AV.int IntKind.i64 m, AV.int IntKind.i64 (IntKind.i64.wrap (i + (1 : Int)))]) ([AObj.box
    [AV.int IntKind.i64 n, AV.int IntKind.i64 pi, AV.int IntKind.i64 e, AV.int IntKind.i64 g, AV.int IntKind.i64 fi,
      AV.row nl [K.int IntKind.i64] ps],
  AObj.box
    [AV.nils, AV.nils, AV.nils, AV.nils, AV.int IntKind.i64 (0 : Int), AV.int IntKind.i64 (0 : Int),
      AV.int IntKind.i64 (0 : Int), AV.int IntKind.i64 (0 : Int), AV.nils, AV.nils, AV.int IntKind.i64 (0 : Int)],
  AObj.box [AV.row nl2 [K.int IntKind.u8] rs, AV.int IntKind.i64 (p + (1 : Int) + (1 : Int) + (1 : Int) + (1 : Int))],
  AObj.box
    [AV.sl (4 : Nat) (0 : Nat) n0, AV.row a1 [K.int IntKind.i64] r1, AV.row a2 [K.int IntKind.i64] r2,
      AV.sl (5 : Nat) (0 : Nat) (1 : Nat), AV.int IntKind.i64 k, AV.int IntKind.i64 at_, AV.int IntKind.i64 fr,
      AV.int IntKind.i64 to_, AV.row a3 [K.int IntKind.i64, K.int IntKind.i64, K.str] r3,
      AV.row a4 [K.int IntKind.i64] r4, AV.int IntKind.i64 z],
  AObj.arr (2 : Nat) (3 : Nat) [K.int IntKind.i64] r0,
  AObj.arr (2 : Nat) (43 : Nat) [K.int IntKind.i64, K.int IntKind.i64, K.int IntKind.i64, K.int IntKind.i64]
    [[AV.int IntKind.i64 ((s_at rs p.toNat).tmod (60 : Int)),
        AV.int IntKind.i64 ((s_at rs (p + (1 : Int)).toNat).tmod n),
        AV.int IntKind.i64
          ((s_at rs (p + (1 : Int) + (1 : Int)).toNat).tmod (IntKind.i64.wrap ((↑ps.length : Int) + (1 : Int)))),
        AV.int IntKind.i64 (s_at rs (p + (1 : Int) + (1 : Int) + (1 : Int)).toNat)]]]))))))))))))
 (Q (Ex.exit (3 : Nat)) ([AV.ptr (0 : Nat) (0 : Nat), AV.ptr (1 : Nat) (0 : Nat)]) ([AObj.box
    [AV.nils, AV.nils, AV.nils, AV.nils, AV.int IntKind.i64 (0 : Int), AV.int IntKind.i64 (0 : Int),
      AV.int IntKind.i64 (0 : Int), AV.int IntKind.i64 (0 : Int), AV.nils, AV.nils, AV.int IntKind.i64 (0 : Int)],
  AObj.box
    [AV.sl (2 : Nat) (0 : Nat) n0, AV.row a1 [K.int IntKind.i64] r1, AV.row a2 [K.int IntKind.i64] r2, AV.nils,
      AV.int IntKind.i64 k, AV.int IntKind.i64 at_, AV.int IntKind.i64 fr, AV.int IntKind.i64 to_,
      AV.row a3 [K.int IntKind.i64, K.int IntKind.i64, K.str] r3, AV.row a4 [K.int IntKind.i64] r4,
      AV.int IntKind.i64 z],
  AObj.arr (2 : Nat) (3 : Nat) [K.int IntKind.i64] r0]))) := by kernel_rfl
theorem nf13d (i m n pi e g fi p k at_ fr to_ z : Int) (n0 : Nat) (nl nl2 a1 a2 a3 a4 : Bool) (ps rs r0 r1 r2 r3 r4 : List (List AV)) (j : Nat) (rows : List (List AV)) (Q : Ex → List AV → List AObj → Prop) : lpBody Try.prog H0 T3 6 6 13 23 [.ptr 0 0, .ptr 1 0, .ptr 2 0, .ptr 3 0, .int .i64 m, .int .i64 i] [.box [.int .i64 n, .int .i64 pi, .int .i64 e, .int .i64 g, .int .i64 fi, .row nl [.int .i64] ps], .box [.nils, .nils, .nils, .nils, .int .i64 0, .int .i64 0, .int .i64 0, .int .i64 0, .nils, .nils, .int .i64 0], .box [.row nl2 [.int .u8] rs, .int .i64 p], .box [.sl 4 0 n0, .row a1 [.int .i64] r1, .row a2 [.int .i64] r2, .sl 5 0 j, .int .i64 k, .int .i64 at_, .int .i64 fr, .int .i64 to_, .row a3 [.int .i64, .int .i64, .str] r3, .row a4 [.int .i64] r4, .int .i64 z], .arr 2 3 [.int .i64] r0, .arr 2 43 [.int .i64, .int .i64, .int .i64, .int .i64] rows] Q = (
br (decide (i < m))
 (((Hyp ((0 : Int) ≤ p ∧ p ≤ (1000000 : Int) ∧ s_bytes rs)) ∧
 (chk (n ≠ (0 : Int)) (((Hyp ((0 : Int) ≤ p + (1 : Int) ∧ p + (1 : Int) ≤ (1000000 : Int) ∧ s_bytes rs)) ∧
 (chk (IntKind.i64.wrap ((↑ps.length : Int) + (1 : Int)) ≠ (0 : Int)) (((Hyp ((0 : Int) ≤ p + (1 : Int) + (1 : Int) ∧ p + (1 : Int) + (1 : Int) ≤ (1000000 : Int) ∧ s_bytes rs)) ∧
 (((Hyp ((0 : Int) ≤ p + (1 : Int) + (1 : Int) + (1 : Int) ∧ p + (1 : Int) + (1 : Int) + (1 : Int) ≤ (1000000 : Int) ∧ s_bytes rs)) ∧
 (chk (j = rows.length) (chk ((rows.length + (1 : Nat)) * (32 : Nat) ≤ (140737488355328 : Nat)) (chk (rows.length + (1 : Nat) ≤ (9223372036854775807 : Nat)) (Q (Ex.nrm) ([AV.ptr (0 : Nat) (0 : Nat), AV.ptr (1 : Nat) (0 : Nat), AV.ptr (2 : Nat) (0 : Nat), AV.ptr (3 : Nat) (0 : Nat),
  AV.int IntKind.i64 m, AV.int IntKind.i64 (IntKind.i64.wrap (i + (1 : Int)))]) ([AObj.box
    [AV.int IntKind.i64 n, AV.int IntKind.i64 pi, AV.int IntKind.i64 e, AV.int IntKind.i64 g, AV.int IntKind.i64 fi,
      AV.row nl [K.int IntKind.i64] ps],
  AObj.box
    [AV.nils, AV.nils, AV.nils, AV.nils, AV.int IntKind.i64 (0 : Int), AV.int IntKind.i64 (0 : Int),
      AV.int IntKind.i64 (0 : Int), AV.int IntKind.i64 (0 : Int), AV.nils, AV.nils, AV.int IntKind.i64 (0 : Int)],
  AObj.box [AV.row nl2 [K.int IntKind.u8] rs, AV.int IntKind.i64 (p + (1 : Int) + (1 : Int) + (1 : Int) + (1 : Int))],
  AObj.box
    [AV.sl (4 : Nat) (0 : Nat) n0, AV.row a1 [K.int IntKind.i64] r1, AV.row a2 [K.int IntKind.i64] r2,
      AV.sl (5 : Nat) (0 : Nat) (rows.length + (1 : Nat)), AV.int IntKind.i64 k, AV.int IntKind.i64 at_,
      AV.int IntKind.i64 fr, AV.int IntKind.i64 to_, AV.row a3 [K.int IntKind.i64, K.int IntKind.i64, K.str] r3,
      AV.row a4 [K.int IntKind.i64] r4, AV.int IntKind.i64 z],
  AObj.arr (2 : Nat) (3 : Nat) [K.int IntKind.i64] r0,
  AObj.arr (2 : Nat) (43 : Nat) [K.int IntKind.i64, K.int IntKind.i64, K.int IntKind.i64, K.int IntKind.i64]
    (rows ++
      [[AV.int IntKind.i64 ((s_at rs p.toNat).tmod (60 : Int)),
          AV.int IntKind.i64 ((s_at rs (p + (1 : Int)).toNat).tmod n),
          AV.int IntKind.i64
            ((s_at rs (p + (1 : Int) + (1 : Int)).toNat).tmod (IntKind.i64.wrap ((↑ps.length : Int) + (1 : Int)))),
          AV.int IntKind.i64 (s_at rs (p + (1 : Int) + (1 : Int) + (1 : Int)).toNat)]])])))))))))))))))
 (Q (Ex.exit (3 : Nat)) ([AV.ptr (0 : Nat) (0 : Nat), AV.ptr (1 : Nat) (0 : Nat)]) ([AObj.box
    [AV.nils, AV.nils, AV.nils, AV.nils, AV.int IntKind.i64 (0 : Int), AV.int IntKind.i64 (0 : Int),
      AV.int IntKind.i64 (0 : Int), AV.int IntKind.i64 (0 : Int), AV.nils, AV.nils, AV.int IntKind.i64 (0 : Int)],
  AObj.box
    [AV.sl (2 : Nat) (0 : Nat) n0, AV.row a1 [K.int IntKind.i64] r1, AV.row a2 [K.int IntKind.i64] r2,
      AV.sl (3 : Nat) (0 : Nat) j, AV.int IntKind.i64 k, AV.int IntKind.i64 at_, AV.int IntKind.i64 fr,
      AV.int IntKind.i64 to_, AV.row a3 [K.int IntKind.i64, K.int IntKind.i64, K.str] r3,
      AV.row a4 [K.int IntKind.i64] r4, AV.int IntKind.i64 z],
  AObj.arr (2 : Nat) (3 : Nat) [K.int IntKind.i64] r0,
  AObj.arr (2 : Nat) (43 : Nat) [K.int IntKind.i64, K.int IntKind.i64, K.int IntKind.i64, K.int IntKind.i64] rows]))) := by kernel_rfl
theorem nf13 (N : Nat) (pi e g fi : Int) (nl nl2 : Bool) (ps rs : List (List AV)) (Q : AV × List AObj → Prop) : inlW Try.prog H0 T4 6 (InO Try.prog H0 T4 6 6) 13 [cf (N : Int) pi e g fi nl ps, .row nl2 [.int .u8] rs] [] Q = (
((Hyp ((0 : Int) = (0 : Int) ∧ (1 : Int) ≤ (↑N : Int) ∧ (↑N : Int) ≤ (12 : Int) ∧ (0 : Int) = (0 : Int) ∧ s_bytes rs)) ∧
((∀ (rows'101 : List (List AV)),
((rows'101 = s_rowi (s_on rs (↑N : Int).toNat)) →
((Hyp ((0 : Int) ≤ (↑N : Int) ∧ (↑N : Int) ≤ (9000 : Int) ∧ s_bytes rs)) ∧
(((Hyp ((0 : Int) ≤ (↑N : Int) + (8 : Int) ∧ (↑N : Int) + (8 : Int) ≤ (9000 : Int) ∧ s_bytes rs)) ∧
(((Hyp ((0 : Int) ≤ (↑N : Int) + (8 : Int) + (8 : Int) ∧ (↑N : Int) + (8 : Int) + (8 : Int) ≤ (1000000 : Int) ∧ s_bytes rs)) ∧
(((Hyp ((0 : Int) ≤ (↑N : Int) + (8 : Int) + (8 : Int) + (1 : Int) ∧
  (↑N : Int) + (8 : Int) + (8 : Int) + (1 : Int) ≤ (1000000 : Int) ∧ s_bytes rs)) ∧
(br ((s_at rs ((↑N : Int) + (8 : Int) + (8 : Int)).toNat).tmod (3 : Int) == (1 : Int))
 (chk ((↑N : Int) ≠ (0 : Int)) (((Hyp ((0 : Int) ≤ (↑N : Int) + (8 : Int) + (8 : Int) + (1 : Int) + (1 : Int) ∧
  (↑N : Int) + (8 : Int) + (8 : Int) + (1 : Int) + (1 : Int) ≤ (1000000 : Int) ∧ s_bytes rs)) ∧
 (((Hyp ((0 : Int) ≤ (↑N : Int) + (8 : Int) + (8 : Int) + (1 : Int) + (1 : Int) + (1 : Int) ∧
  (↑N : Int) + (8 : Int) + (8 : Int) + (1 : Int) + (1 : Int) + (1 : Int) ≤ (1000000 : Int) ∧ s_bytes rs)) ∧
 (((Hyp ((0 : Int) ≤ (↑N : Int) + (8 : Int) + (8 : Int) + (1 : Int) + (1 : Int) + (1 : Int) + (1 : Int) ∧
  (↑N : Int) + (8 : Int) + (8 : Int) + (1 : Int) + (1 : Int) + (1 : Int) + (1 : Int) ≤ (9000 : Int) ∧ s_bytes rs)) ∧
 ((∀ (nl'112 : Bool),
 (∀ (k113 : Nat),
 ((k113 =
  ((s_at rs ((↑N : Int) + (8 : Int) + (8 : Int) + (1 : Int) + (1 : Int) + (1 : Int) + (1 : Int)).toNat).tmod
      (8 : Int)).toNat) →
 ((Hyp ((0 : Int) ≤
    (↑N : Int) + (8 : Int) + (8 : Int) + (1 : Int) + (1 : Int) + (1 : Int) + (1 : Int) + (1 : Int) +
      (↑(s_actsN
            (s_drop
              (((↑N : Int) + (8 : Int) + (8 : Int) + (1 : Int) + (1 : Int) + (1 : Int) + (1 : Int)).toNat + (1 : Nat))
              rs)
            k113) :
        Int) ∧
  (↑N : Int) + (8 : Int) + (8 : Int) + (1 : Int) + (1 : Int) + (1 : Int) + (1 : Int) + (1 : Int) +
        (↑(s_actsN
              (s_drop
                (((↑N : Int) + (8 : Int) + (8 : Int) + (1 : Int) + (1 : Int) + (1 : Int) + (1 : Int)).toNat + (1 : Nat))
                rs)
              k113) :
          Int) ≤
      (9000 : Int) ∧
    s_bytes rs)) ∧
 (((Hyp ((0 : Int) ≤
    (↑N : Int) + (8 : Int) + (8 : Int) + (1 : Int) + (1 : Int) + (1 : Int) + (1 : Int) + (1 : Int) +
        (↑(s_actsN
              (s_drop
                (((↑N : Int) + (8 : Int) + (8 : Int) + (1 : Int) + (1 : Int) + (1 : Int) + (1 : Int)).toNat + (1 : Nat))
                rs)
              k113) :
          Int) +
      (4 : Int) ∧
  (↑N : Int) + (8 : Int) + (8 : Int) + (1 : Int) + (1 : Int) + (1 : Int) + (1 : Int) + (1 : Int) +
          (↑(s_actsN
                (s_drop
                  (((↑N : Int) + (8 : Int) + (8 : Int) + (1 : Int) + (1 : Int) + (1 : Int) + (1 : Int)).toNat +
                    (1 : Nat))
                  rs)
                k113) :
            Int) +
        (4 : Int) ≤
      (1000000 : Int) ∧
    s_bytes rs)) ∧
 (((Hyp ((0 : Int) ≤
    (↑N : Int) + (8 : Int) + (8 : Int) + (1 : Int) + (1 : Int) + (1 : Int) + (1 : Int) + (1 : Int) +
          (↑(s_actsN
                (s_drop
                  (((↑N : Int) + (8 : Int) + (8 : Int) + (1 : Int) + (1 : Int) + (1 : Int) + (1 : Int)).toNat +
                    (1 : Nat))
                  rs)
                k113) :
            Int) +
        (4 : Int) +
      (1 : Int) ∧
  (↑N : Int) + (8 : Int) + (8 : Int) + (1 : Int) + (1 : Int) + (1 : Int) + (1 : Int) + (1 : Int) +
            (↑(s_actsN
                  (s_drop
                    (((↑N : Int) + (8 : Int) + (8 : Int) + (1 : Int) + (1 : Int) + (1 : Int) + (1 : Int)).toNat +
                      (1 : Nat))
                    rs)
                  k113) :
              Int) +
          (4 : Int) +
        (1 : Int) ≤
      (1000000 : Int) ∧
    s_bytes rs)) ∧
 (((Hyp ((0 : Int) = (0 : Int) ∧
  (0 : Int) ≤
      (s_at rs
            ((↑N : Int) + (8 : Int) + (8 : Int) + (1 : Int) + (1 : Int) + (1 : Int) + (1 : Int) + (1 : Int) +
                    (↑(s_actsN
                          (s_drop
                            (((↑N : Int) + (8 : Int) + (8 : Int) + (1 : Int) + (1 : Int) + (1 : Int) +
                                  (1 : Int)).toNat +
                              (1 : Nat))
                            rs)
                          k113) :
                      Int) +
                  (4 : Int) +
                (1 : Int)).toNat).tmod
        (16 : Int) ∧
    (s_at rs
              ((↑N : Int) + (8 : Int) + (8 : Int) + (1 : Int) + (1 : Int) + (1 : Int) + (1 : Int) + (1 : Int) +
                      (↑(s_actsN
                            (s_drop
                              (((↑N : Int) + (8 : Int) + (8 : Int) + (1 : Int) + (1 : Int) + (1 : Int) +
                                    (1 : Int)).toNat +
                                (1 : Nat))
                              rs)
                            k113) :
                        Int) +
                    (4 : Int) +
                  (1 : Int)).toNat).tmod
          (16 : Int) ≤
        (100 : Int) ∧
      (↑N : Int) ≠ (0 : Int) ∧
        (0 : Int) ≤ (↑ps.length : Int) ∧
          (↑ps.length : Int) ≤ (100 : Int) ∧
            (0 : Int) ≤
                (↑N : Int) + (8 : Int) + (8 : Int) + (1 : Int) + (1 : Int) + (1 : Int) + (1 : Int) + (1 : Int) +
                        (↑(s_actsN
                              (s_drop
                                (((↑N : Int) + (8 : Int) + (8 : Int) + (1 : Int) + (1 : Int) + (1 : Int) +
                                      (1 : Int)).toNat +
                                  (1 : Nat))
                                rs)
                              k113) :
                          Int) +
                      (4 : Int) +
                    (1 : Int) +
                  (1 : Int) ∧
              (↑N : Int) + (8 : Int) + (8 : Int) + (1 : Int) + (1 : Int) + (1 : Int) + (1 : Int) + (1 : Int) +
                          (↑(s_actsN
                                (s_drop
                                  (((↑N : Int) + (8 : Int) + (8 : Int) + (1 : Int) + (1 : Int) + (1 : Int) +
                                        (1 : Int)).toNat +
                                    (1 : Nat))
                                  rs)
                                k113) :
                            Int) +
                        (4 : Int) +
                      (1 : Int) +
                    (1 : Int) ≤
                  (100000 : Int) ∧
                s_bytes rs)) ∧
 ((((((s_at rs
        ((↑N : Int) + (8 : Int) + (8 : Int) + (1 : Int) + (1 : Int) + (1 : Int) + (1 : Int) + (1 : Int) +
                (↑(s_actsN
                      (s_drop
                        (((↑N : Int) + (8 : Int) + (8 : Int) + (1 : Int) + (1 : Int) + (1 : Int) + (1 : Int)).toNat +
                          (1 : Nat))
                        rs)
                      k113) :
                  Int) +
              (4 : Int) +
            (1 : Int)).toNat).tmod
    (16 : Int) =
  (0 : Int)) →
 Q ((AV.agg
    [AV.sl (0 : Nat) (0 : Nat) (↑N : Int).toNat,
      AV.row false [K.int IntKind.i64] (s_rowi (s_sg (s_drop (↑N : Int).toNat rs) (1 : Int) (8 : Nat))),
      AV.row false [K.int IntKind.i64] (s_rowi (s_sg (s_drop ((↑N : Int) + (8 : Int)).toNat rs) (1 : Int) (8 : Nat))),
      AV.nils, AV.int IntKind.i64 ((s_at rs ((↑N : Int) + (8 : Int) + (8 : Int)).toNat).tmod (3 : Int)),
      AV.int IntKind.i64 ((s_at rs ((↑N : Int) + (8 : Int) + (8 : Int) + (1 : Int)).toNat).tmod (↑N : Int)),
      AV.int IntKind.i64 ((s_at rs ((↑N : Int) + (8 : Int) + (8 : Int) + (1 : Int) + (1 : Int)).toNat).tmod (60 : Int)),
      AV.int IntKind.i64
        (IntKind.i64.wrap
          ((s_at rs ((↑N : Int) + (8 : Int) + (8 : Int) + (1 : Int) + (1 : Int)).toNat).tmod (60 : Int) +
            (s_at rs ((↑N : Int) + (8 : Int) + (8 : Int) + (1 : Int) + (1 : Int) + (1 : Int)).toNat).tmod (60 : Int))),
      AV.row nl'112 [K.int IntKind.i64, K.int IntKind.i64, K.str]
        (s_acts
          (s_drop
            (((↑N : Int) + (8 : Int) + (8 : Int) + (1 : Int) + (1 : Int) + (1 : Int) + (1 : Int)).toNat + (1 : Nat)) rs)
          k113),
      AV.row false [K.int IntKind.i64]
        (s_rowi
          (s_sg
            (s_drop
              ((↑N : Int) + (8 : Int) + (8 : Int) + (1 : Int) + (1 : Int) + (1 : Int) + (1 : Int) + (1 : Int) +
                  (↑(s_actsN
                        (s_drop
                          (((↑N : Int) + (8 : Int) + (8 : Int) + (1 : Int) + (1 : Int) + (1 : Int) + (1 : Int)).toNat +
                            (1 : Nat))
                          rs)
                        k113) :
                    Int)).toNat
              rs)
            (8 : Int) (4 : Nat))),
      AV.int IntKind.i64
        (IntKind.i64.wrap
          ((20 : Int) +
            (s_at rs
                  ((↑N : Int) + (8 : Int) + (8 : Int) + (1 : Int) + (1 : Int) + (1 : Int) + (1 : Int) + (1 : Int) +
                        (↑(s_actsN
                              (s_drop
                                (((↑N : Int) + (8 : Int) + (8 : Int) + (1 : Int) + (1 : Int) + (1 : Int) +
                                      (1 : Int)).toNat +
                                  (1 : Nat))
                                rs)
                              k113) :
                          Int) +
                      (4 : Int)).toNat).tmod
              (40 : Int)))],
  [AObj.arr (2 : Nat) (3 : Nat) [K.int IntKind.i64] rows'101])))) ∧
 ((∀ (rows'120 : List (List AV)),
 ((rows'120 =
  s_calls (↑N : Int) (↑ps.length : Int)
    (s_drop
      ((↑N : Int) + (8 : Int) + (8 : Int) + (1 : Int) + (1 : Int) + (1 : Int) + (1 : Int) + (1 : Int) +
                (↑(s_actsN
                      (s_drop
                        (((↑N : Int) + (8 : Int) + (8 : Int) + (1 : Int) + (1 : Int) + (1 : Int) + (1 : Int)).toNat +
                          (1 : Nat))
                        rs)
                      k113) :
                  Int) +
              (4 : Int) +
            (1 : Int) +
          (1 : Int)).toNat
      rs)
    ((s_at rs
            ((↑N : Int) + (8 : Int) + (8 : Int) + (1 : Int) + (1 : Int) + (1 : Int) + (1 : Int) + (1 : Int) +
                    (↑(s_actsN
                          (s_drop
                            (((↑N : Int) + (8 : Int) + (8 : Int) + (1 : Int) + (1 : Int) + (1 : Int) +
                                  (1 : Int)).toNat +
                              (1 : Nat))
                            rs)
                          k113) :
                      Int) +
                  (4 : Int) +
                (1 : Int)).toNat).tmod
        (16 : Int)).toNat) →
 Q ((AV.agg
    [AV.sl (0 : Nat) (0 : Nat) (↑N : Int).toNat,
      AV.row false [K.int IntKind.i64] (s_rowi (s_sg (s_drop (↑N : Int).toNat rs) (1 : Int) (8 : Nat))),
      AV.row false [K.int IntKind.i64] (s_rowi (s_sg (s_drop ((↑N : Int) + (8 : Int)).toNat rs) (1 : Int) (8 : Nat))),
      AV.sl (1 : Nat) (0 : Nat)
        ((s_at rs
                ((↑N : Int) + (8 : Int) + (8 : Int) + (1 : Int) + (1 : Int) + (1 : Int) + (1 : Int) + (1 : Int) +
                        (↑(s_actsN
                              (s_drop
                                (((↑N : Int) + (8 : Int) + (8 : Int) + (1 : Int) + (1 : Int) + (1 : Int) +
                                      (1 : Int)).toNat +
                                  (1 : Nat))
                                rs)
                              k113) :
                          Int) +
                      (4 : Int) +
                    (1 : Int)).toNat).tmod
            (16 : Int)).toNat,
      AV.int IntKind.i64 ((s_at rs ((↑N : Int) + (8 : Int) + (8 : Int)).toNat).tmod (3 : Int)),
      AV.int IntKind.i64 ((s_at rs ((↑N : Int) + (8 : Int) + (8 : Int) + (1 : Int)).toNat).tmod (↑N : Int)),
      AV.int IntKind.i64 ((s_at rs ((↑N : Int) + (8 : Int) + (8 : Int) + (1 : Int) + (1 : Int)).toNat).tmod (60 : Int)),
      AV.int IntKind.i64
        (IntKind.i64.wrap
          ((s_at rs ((↑N : Int) + (8 : Int) + (8 : Int) + (1 : Int) + (1 : Int)).toNat).tmod (60 : Int) +
            (s_at rs ((↑N : Int) + (8 : Int) + (8 : Int) + (1 : Int) + (1 : Int) + (1 : Int)).toNat).tmod (60 : Int))),
      AV.row nl'112 [K.int IntKind.i64, K.int IntKind.i64, K.str]
        (s_acts
          (s_drop
            (((↑N : Int) + (8 : Int) + (8 : Int) + (1 : Int) + (1 : Int) + (1 : Int) + (1 : Int)).toNat + (1 : Nat)) rs)
          k113),
      AV.row false [K.int IntKind.i64]
        (s_rowi
          (s_sg
            (s_drop
              ((↑N : Int) + (8 : Int) + (8 : Int) + (1 : Int) + (1 : Int) + (1 : Int) + (1 : Int) + (1 : Int) +
                  (↑(s_actsN
                        (s_drop
                          (((↑N : Int) + (8 : Int) + (8 : Int) + (1 : Int) + (1 : Int) + (1 : Int) + (1 : Int)).toNat +
                            (1 : Nat))
                          rs)
                        k113) :
                    Int)).toNat
              rs)
            (8 : Int) (4 : Nat))),
      AV.int IntKind.i64
        (IntKind.i64.wrap
          ((20 : Int) +
            (s_at rs
                  ((↑N : Int) + (8 : Int) + (8 : Int) + (1 : Int) + (1 : Int) + (1 : Int) + (1 : Int) + (1 : Int) +
                        (↑(s_actsN
                              (s_drop
                                (((↑N : Int) + (8 : Int) + (8 : Int) + (1 : Int) + (1 : Int) + (1 : Int) +
                                      (1 : Int)).toNat +
                                  (1 : Nat))
                                rs)
                              k113) :
                          Int) +
                      (4 : Int)).toNat).tmod
              (40 : Int)))],
  [AObj.arr (2 : Nat) (3 : Nat) [K.int IntKind.i64] rows'101,
    AObj.arr (2 : Nat) (43 : Nat) [K.int IntKind.i64, K.int IntKind.i64, K.int IntKind.i64, K.int IntKind.i64]
      rows'120])))))))))))))))))))))))))
 (br ((s_at rs ((↑N : Int) + (8 : Int) + (8 : Int)).toNat).tmod (3 : Int) == (2 : Int))
  (chk (IntKind.i64.wrap ((2 : Int) * (↑N : Int)) ≠ (0 : Int)) (((Hyp ((0 : Int) ≤ (↑N : Int) + (8 : Int) + (8 : Int) + (1 : Int) + (1 : Int) ∧
  (↑N : Int) + (8 : Int) + (8 : Int) + (1 : Int) + (1 : Int) ≤ (1000000 : Int) ∧ s_bytes rs)) ∧
  (((Hyp ((0 : Int) ≤ (↑N : Int) + (8 : Int) + (8 : Int) + (1 : Int) + (1 : Int) + (1 : Int) ∧
  (↑N : Int) + (8 : Int) + (8 : Int) + (1 : Int) + (1 : Int) + (1 : Int) ≤ (1000000 : Int) ∧ s_bytes rs)) ∧
  (((Hyp ((0 : Int) ≤ (↑N : Int) + (8 : Int) + (8 : Int) + (1 : Int) + (1 : Int) + (1 : Int) + (1 : Int) ∧
  (↑N : Int) + (8 : Int) + (8 : Int) + (1 : Int) + (1 : Int) + (1 : Int) + (1 : Int) ≤ (9000 : Int) ∧ s_bytes rs)) ∧
  ((∀ (nl'113 : Bool),
  (∀ (k114 : Nat),
  ((k114 =
  ((s_at rs ((↑N : Int) + (8 : Int) + (8 : Int) + (1 : Int) + (1 : Int) + (1 : Int) + (1 : Int)).toNat).tmod
      (8 : Int)).toNat) →
  ((Hyp ((0 : Int) ≤
    (↑N : Int) + (8 : Int) + (8 : Int) + (1 : Int) + (1 : Int) + (1 : Int) + (1 : Int) + (1 : Int) +
      (↑(s_actsN
            (s_drop
              (((↑N : Int) + (8 : Int) + (8 : Int) + (1 : Int) + (1 : Int) + (1 : Int) + (1 : Int)).toNat + (1 : Nat))
              rs)
            k114) :
        Int) ∧
  (↑N : Int) + (8 : Int) + (8 : Int) + (1 : Int) + (1 : Int) + (1 : Int) + (1 : Int) + (1 : Int) +
        (↑(s_actsN
              (s_drop
                (((↑N : Int) + (8 : Int) + (8 : Int) + (1 : Int) + (1 : Int) + (1 : Int) + (1 : Int)).toNat + (1 : Nat))
                rs)
              k114) :
          Int) ≤
      (9000 : Int) ∧
    s_bytes rs)) ∧
  (((Hyp ((0 : Int) ≤
    (↑N : Int) + (8 : Int) + (8 : Int) + (1 : Int) + (1 : Int) + (1 : Int) + (1 : Int) + (1 : Int) +
        (↑(s_actsN
              (s_drop
                (((↑N : Int) + (8 : Int) + (8 : Int) + (1 : Int) + (1 : Int) + (1 : Int) + (1 : Int)).toNat + (1 : Nat))
                rs)
              k114) :
          Int) +
      (4 : Int) ∧
  (↑N : Int) + (8 : Int) + (8 : Int) + (1 : Int) + (1 : Int) + (1 : Int) + (1 : Int) + (1 : Int) +
          (↑(s_actsN
                (s_drop
                  (((↑N : Int) + (8 : Int) + (8 : Int) + (1 : Int) + (1 : Int) + (1 : Int) + (1 : Int)).toNat +
                    (1 : Nat))
                  rs)
                k114) :
            Int) +
        (4 : Int) ≤
      (1000000 : Int) ∧
    s_bytes rs)) ∧
  (((Hyp ((0 : Int) ≤
    (↑N : Int) + (8 : Int) + (8 : Int) + (1 : Int) + (1 : Int) + (1 : Int) + (1 : Int) + (1 : Int) +
          (↑(s_actsN
                (s_drop
                  (((↑N : Int) + (8 : Int) + (8 : Int) + (1 : Int) + (1 : Int) + (1 : Int) + (1 : Int)).toNat +
                    (1 : Nat))
                  rs)
                k114) :
            Int) +
        (4 : Int) +
      (1 : Int) ∧
  (↑N : Int) + (8 : Int) + (8 : Int) + (1 : Int) + (1 : Int) + (1 : Int) + (1 : Int) + (1 : Int) +
            (↑(s_actsN
                  (s_drop
                    (((↑N : Int) + (8 : Int) + (8 : Int) + (1 : Int) + (1 : Int) + (1 : Int) + (1 : Int)).toNat +
                      (1 : Nat))
                    rs)
                  k114) :
              Int) +
          (4 : Int) +
        (1 : Int) ≤
      (1000000 : Int) ∧
    s_bytes rs)) ∧
  (((Hyp ((0 : Int) = (0 : Int) ∧
  (0 : Int) ≤
      (s_at rs
            ((↑N : Int) + (8 : Int) + (8 : Int) + (1 : Int) + (1 : Int) + (1 : Int) + (1 : Int) + (1 : Int) +
                    (↑(s_actsN
                          (s_drop
                            (((↑N : Int) + (8 : Int) + (8 : Int) + (1 : Int) + (1 : Int) + (1 : Int) +
                                  (1 : Int)).toNat +
                              (1 : Nat))
                            rs)
                          k114) :
                      Int) +
                  (4 : Int) +
                (1 : Int)).toNat).tmod
        (16 : Int) ∧
    (s_at rs
              ((↑N : Int) + (8 : Int) + (8 : Int) + (1 : Int) + (1 : Int) + (1 : Int) + (1 : Int) + (1 : Int) +
                      (↑(s_actsN
                            (s_drop
                              (((↑N : Int) + (8 : Int) + (8 : Int) + (1 : Int) + (1 : Int) + (1 : Int) +
                                    (1 : Int)).toNat +
                                (1 : Nat))
                              rs)
                            k114) :
                        Int) +
                    (4 : Int) +
                  (1 : Int)).toNat).tmod
          (16 : Int) ≤
        (100 : Int) ∧
      (↑N : Int) ≠ (0 : Int) ∧
        (0 : Int) ≤ (↑ps.length : Int) ∧
          (↑ps.length : Int) ≤ (100 : Int) ∧
            (0 : Int) ≤
                (↑N : Int) + (8 : Int) + (8 : Int) + (1 : Int) + (1 : Int) + (1 : Int) + (1 : Int) + (1 : Int) +
                        (↑(s_actsN
                              (s_drop
                                (((↑N : Int) + (8 : Int) + (8 : Int) + (1 : Int) + (1 : Int) + (1 : Int) +
                                      (1 : Int)).toNat +
                                  (1 : Nat))
                                rs)
                              k114) :
                          Int) +
                      (4 : Int) +
                    (1 : Int) +
                  (1 : Int) ∧
              (↑N : Int) + (8 : Int) + (8 : Int) + (1 : Int) + (1 : Int) + (1 : Int) + (1 : Int) + (1 : Int) +
                          (↑(s_actsN
                                (s_drop
                                  (((↑N : Int) + (8 : Int) + (8 : Int) + (1 : Int) + (1 : Int) + (1 : Int) +
                                        (1 : Int)).toNat +
                                    (1 : Nat))
                                  rs)
                                k114) :
                            Int) +
                        (4 : Int) +
                      (1 : Int) +
                    (1 : Int) ≤
                  (100000 : Int) ∧
                s_bytes rs)) ∧
  ((((((s_at rs
        ((↑N : Int) + (8 : Int) + (8 : Int) + (1 : Int) + (1 : Int) + (1 : Int) + (1 : Int) + (1 : Int) +
                (↑(s_actsN
                      (s_drop
                        (((↑N : Int) + (8 : Int) + (8 : Int) + (1 : Int) + (1 : Int) + (1 : Int) + (1 : Int)).toNat +
                          (1 : Nat))
                        rs)
                      k114) :
                  Int) +
              (4 : Int) +
            (1 : Int)).toNat).tmod
    (16 : Int) =
  (0 : Int)) →
  Q ((AV.agg
    [AV.sl (0 : Nat) (0 : Nat) (↑N : Int).toNat,
      AV.row false [K.int IntKind.i64] (s_rowi (s_sg (s_drop (↑N : Int).toNat rs) (1 : Int) (8 : Nat))),
      AV.row false [K.int IntKind.i64] (s_rowi (s_sg (s_drop ((↑N : Int) + (8 : Int)).toNat rs) (1 : Int) (8 : Nat))),
      AV.nils, AV.int IntKind.i64 ((s_at rs ((↑N : Int) + (8 : Int) + (8 : Int)).toNat).tmod (3 : Int)),
      AV.int IntKind.i64
        ((s_at rs ((↑N : Int) + (8 : Int) + (8 : Int) + (1 : Int)).toNat).tmod
          (IntKind.i64.wrap ((2 : Int) * (↑N : Int)))),
      AV.int IntKind.i64 ((s_at rs ((↑N : Int) + (8 : Int) + (8 : Int) + (1 : Int) + (1 : Int)).toNat).tmod (60 : Int)),
      AV.int IntKind.i64
        (IntKind.i64.wrap
          ((s_at rs ((↑N : Int) + (8 : Int) + (8 : Int) + (1 : Int) + (1 : Int)).toNat).tmod (60 : Int) +
            (s_at rs ((↑N : Int) + (8 : Int) + (8 : Int) + (1 : Int) + (1 : Int) + (1 : Int)).toNat).tmod (60 : Int))),
      AV.row nl'113 [K.int IntKind.i64, K.int IntKind.i64, K.str]
        (s_acts
          (s_drop
            (((↑N : Int) + (8 : Int) + (8 : Int) + (1 : Int) + (1 : Int) + (1 : Int) + (1 : Int)).toNat + (1 : Nat)) rs)
          k114),
      AV.row false [K.int IntKind.i64]
        (s_rowi
          (s_sg
            (s_drop
              ((↑N : Int) + (8 : Int) + (8 : Int) + (1 : Int) + (1 : Int) + (1 : Int) + (1 : Int) + (1 : Int) +
                  (↑(s_actsN
                        (s_drop
                          (((↑N : Int) + (8 : Int) + (8 : Int) + (1 : Int) + (1 : Int) + (1 : Int) + (1 : Int)).toNat +
                            (1 : Nat))
                          rs)
                        k114) :
                    Int)).toNat
              rs)
            (8 : Int) (4 : Nat))),
      AV.int IntKind.i64
        (IntKind.i64.wrap
          ((20 : Int) +
            (s_at rs
                  ((↑N : Int) + (8 : Int) + (8 : Int) + (1 : Int) + (1 : Int) + (1 : Int) + (1 : Int) + (1 : Int) +
                        (↑(s_actsN
                              (s_drop
                                (((↑N : Int) + (8 : Int) + (8 : Int) + (1 : Int) + (1 : Int) + (1 : Int) +
                                      (1 : Int)).toNat +
                                  (1 : Nat))
                                rs)
                              k114) :
                          Int) +
                      (4 : Int)).toNat).tmod
              (40 : Int)))],
  [AObj.arr (2 : Nat) (3 : Nat) [K.int IntKind.i64] rows'101])))) ∧
  ((∀ (rows'121 : List (List AV)),
  ((rows'121 =
  s_calls (↑N : Int) (↑ps.length : Int)
    (s_drop
      ((↑N : Int) + (8 : Int) + (8 : Int) + (1 : Int) + (1 : Int) + (1 : Int) + (1 : Int) + (1 : Int) +
                (↑(s_actsN
                      (s_drop
                        (((↑N : Int) + (8 : Int) + (8 : Int) + (1 : Int) + (1 : Int) + (1 : Int) + (1 : Int)).toNat +
                          (1 : Nat))
                        rs)
                      k114) :
                  Int) +
              (4 : Int) +
            (1 : Int) +
          (1 : Int)).toNat
      rs)
    ((s_at rs
            ((↑N : Int) + (8 : Int) + (8 : Int) + (1 : Int) + (1 : Int) + (1 : Int) + (1 : Int) + (1 : Int) +
                    (↑(s_actsN
                          (s_drop
                            (((↑N : Int) + (8 : Int) + (8 : Int) + (1 : Int) + (1 : Int) + (1 : Int) +
                                  (1 : Int)).toNat +
                              (1 : Nat))
                            rs)
                          k114) :
                      Int) +
                  (4 : Int) +
                (1 : Int)).toNat).tmod
        (16 : Int)).toNat) →
  Q ((AV.agg
    [AV.sl (0 : Nat) (0 : Nat) (↑N : Int).toNat,
      AV.row false [K.int IntKind.i64] (s_rowi (s_sg (s_drop (↑N : Int).toNat rs) (1 : Int) (8 : Nat))),
      AV.row false [K.int IntKind.i64] (s_rowi (s_sg (s_drop ((↑N : Int) + (8 : Int)).toNat rs) (1 : Int) (8 : Nat))),
      AV.sl (1 : Nat) (0 : Nat)
        ((s_at rs
                ((↑N : Int) + (8 : Int) + (8 : Int) + (1 : Int) + (1 : Int) + (1 : Int) + (1 : Int) + (1 : Int) +
                        (↑(s_actsN
                              (s_drop
                                (((↑N : Int) + (8 : Int) + (8 : Int) + (1 : Int) + (1 : Int) + (1 : Int) +
                                      (1 : Int)).toNat +
                                  (1 : Nat))
                                rs)
                              k114) :
                          Int) +
                      (4 : Int) +
                    (1 : Int)).toNat).tmod
            (16 : Int)).toNat,
      AV.int IntKind.i64 ((s_at rs ((↑N : Int) + (8 : Int) + (8 : Int)).toNat).tmod (3 : Int)),
      AV.int IntKind.i64
        ((s_at rs ((↑N : Int) + (8 : Int) + (8 : Int) + (1 : Int)).toNat).tmod
          (IntKind.i64.wrap ((2 : Int) * (↑N : Int)))),
      AV.int IntKind.i64 ((s_at rs ((↑N : Int) + (8 : Int) + (8 : Int) + (1 : Int) + (1 : Int)).toNat).tmod (60 : Int)),
      AV.int IntKind.i64
        (IntKind.i64.wrap
          ((s_at rs ((↑N : Int) + (8 : Int) + (8 : Int) + (1 : Int) + (1 : Int)).toNat).tmod (60 : Int) +
            (s_at rs ((↑N : Int) + (8 : Int) + (8 : Int) + (1 : Int) + (1 : Int) + (1 : Int)).toNat).tmod (60 : Int))),
      AV.row nl'113 [K.int IntKind.i64, K.int IntKind.i64, K.str]
        (s_acts
          (s_drop
            (((↑N : Int) + (8 : Int) + (8 : Int) + (1 : Int) + (1 : Int) + (1 : Int) + (1 : Int)).toNat + (1 : Nat)) rs)
          k114),
      AV.row false [K.int IntKind.i64]
        (s_rowi
          (s_sg
            (s_drop
              ((↑N : Int) + (8 : Int) + (8 : Int) + (1 : Int) + (1 : Int) + (1 : Int) + (1 : Int) + (1 : Int) +
                  (↑(s_actsN
                        (s_drop
                          (((↑N : Int) + (8 : Int) + (8 : Int) + (1 : Int) + (1 : Int) + (1 : Int) + (1 : Int)).toNat +
                            (1 : Nat))
                          rs)
                        k114) :
                    Int)).toNat
              rs)
            (8 : Int) (4 : Nat))),
      AV.int IntKind.i64
        (IntKind.i64.wrap
          ((20 : Int) +
            (s_at rs
                  ((↑N : Int) + (8 : Int) + (8 : Int) + (1 : Int) + (1 : Int) + (1 : Int) + (1 : Int) + (1 : Int) +
                        (↑(s_actsN
                              (s_drop
                                (((↑N : Int) + (8 : Int) + (8 : Int) + (1 : Int) + (1 : Int) + (1 : Int) +
                                      (1 : Int)).toNat +
                                  (1 : Nat))
                                rs)
                              k114) :
                          Int) +
                      (4 : Int)).toNat).tmod
              (40 : Int)))],
  [AObj.arr (2 : Nat) (3 : Nat) [K.int IntKind.i64] rows'101,
    AObj.arr (2 : Nat) (43 : Nat) [K.int IntKind.i64, K.int IntKind.i64, K.int IntKind.i64, K.int IntKind.i64]
      rows'121])))))))))))))))))))))))))
  (((Hyp ((0 : Int) ≤ (↑N : Int) + (8 : Int) + (8 : Int) + (1 : Int) + (1 : Int) ∧
  (↑N : Int) + (8 : Int) + (8 : Int) + (1 : Int) + (1 : Int) ≤ (1000000 : Int) ∧ s_bytes rs)) ∧
  (((Hyp ((0 : Int) ≤ (↑N : Int) + (8 : Int) + (8 : Int) + (1 : Int) + (1 : Int) + (1 : Int) ∧
  (↑N : Int) + (8 : Int) + (8 : Int) + (1 : Int) + (1 : Int) + (1 : Int) ≤ (1000000 : Int) ∧ s_bytes rs)) ∧
  (((Hyp ((0 : Int) ≤ (↑N : Int) + (8 : Int) + (8 : Int) + (1 : Int) + (1 : Int) + (1 : Int) + (1 : Int) ∧
  (↑N : Int) + (8 : Int) + (8 : Int) + (1 : Int) + (1 : Int) + (1 : Int) + (1 : Int) ≤ (9000 : Int) ∧ s_bytes rs)) ∧
  ((∀ (nl'112 : Bool),
  (∀ (k113 : Nat),
  ((k113 =
  ((s_at rs ((↑N : Int) + (8 : Int) + (8 : Int) + (1 : Int) + (1 : Int) + (1 : Int) + (1 : Int)).toNat).tmod
      (8 : Int)).toNat) →
  ((Hyp ((0 : Int) ≤
    (↑N : Int) + (8 : Int) + (8 : Int) + (1 : Int) + (1 : Int) + (1 : Int) + (1 : Int) + (1 : Int) +
      (↑(s_actsN
            (s_drop
              (((↑N : Int) + (8 : Int) + (8 : Int) + (1 : Int) + (1 : Int) + (1 : Int) + (1 : Int)).toNat + (1 : Nat))
              rs)
            k113) :
        Int) ∧
  (↑N : Int) + (8 : Int) + (8 : Int) + (1 : Int) + (1 : Int) + (1 : Int) + (1 : Int) + (1 : Int) +
        (↑(s_actsN
              (s_drop
                (((↑N : Int) + (8 : Int) + (8 : Int) + (1 : Int) + (1 : Int) + (1 : Int) + (1 : Int)).toNat + (1 : Nat))
                rs)
              k113) :
          Int) ≤
      (9000 : Int) ∧
    s_bytes rs)) ∧
  (((Hyp ((0 : Int) ≤
    (↑N : Int) + (8 : Int) + (8 : Int) + (1 : Int) + (1 : Int) + (1 : Int) + (1 : Int) + (1 : Int) +
        (↑(s_actsN
              (s_drop
                (((↑N : Int) + (8 : Int) + (8 : Int) + (1 : Int) + (1 : Int) + (1 : Int) + (1 : Int)).toNat + (1 : Nat))
                rs)
              k113) :
          Int) +
      (4 : Int) ∧
  (↑N : Int) + (8 : Int) + (8 : Int) + (1 : Int) + (1 : Int) + (1 : Int) + (1 : Int) + (1 : Int) +
          (↑(s_actsN
                (s_drop
                  (((↑N : Int) + (8 : Int) + (8 : Int) + (1 : Int) + (1 : Int) + (1 : Int) + (1 : Int)).toNat +
                    (1 : Nat))
                  rs)
                k113) :
            Int) +
        (4 : Int) ≤
      (1000000 : Int) ∧
    s_bytes rs)) ∧
  (((Hyp ((0 : Int) ≤
    (↑N : Int) + (8 : Int) + (8 : Int) + (1 : Int) + (1 : Int) + (1 : Int) + (1 : Int) + (1 : Int) +
          (↑(s_actsN
                (s_drop
                  (((↑N : Int) + (8 : Int) + (8 : Int) + (1 : Int) + (1 : Int) + (1 : Int) + (1 : Int)).toNat +
                    (1 : Nat))
                  rs)
                k113) :
            Int) +
        (4 : Int) +
      (1 : Int) ∧
  (↑N : Int) + (8 : Int) + (8 : Int) + (1 : Int) + (1 : Int) + (1 : Int) + (1 : Int) + (1 : Int) +
            (↑(s_actsN
                  (s_drop
                    (((↑N : Int) + (8 : Int) + (8 : Int) + (1 : Int) + (1 : Int) + (1 : Int) + (1 : Int)).toNat +
                      (1 : Nat))
                    rs)
                  k113) :
              Int) +
          (4 : Int) +
        (1 : Int) ≤
      (1000000 : Int) ∧
    s_bytes rs)) ∧
  (((Hyp ((0 : Int) = (0 : Int) ∧
  (0 : Int) ≤
      (s_at rs
            ((↑N : Int) + (8 : Int) + (8 : Int) + (1 : Int) + (1 : Int) + (1 : Int) + (1 : Int) + (1 : Int) +
                    (↑(s_actsN
                          (s_drop
                            (((↑N : Int) + (8 : Int) + (8 : Int) + (1 : Int) + (1 : Int) + (1 : Int) +
                                  (1 : Int)).toNat +
                              (1 : Nat))
                            rs)
                          k113) :
                      Int) +
                  (4 : Int) +
                (1 : Int)).toNat).tmod
        (16 : Int) ∧
    (s_at rs
              ((↑N : Int) + (8 : Int) + (8 : Int) + (1 : Int) + (1 : Int) + (1 : Int) + (1 : Int) + (1 : Int) +
                      (↑(s_actsN
                            (s_drop
                              (((↑N : Int) + (8 : Int) + (8 : Int) + (1 : Int) + (1 : Int) + (1 : Int) +
                                    (1 : Int)).toNat +
                                (1 : Nat))
                              rs)
                            k113) :
                        Int) +
                    (4 : Int) +
                  (1 : Int)).toNat).tmod
          (16 : Int) ≤
        (100 : Int) ∧
      (↑N : Int) ≠ (0 : Int) ∧
        (0 : Int) ≤ (↑ps.length : Int) ∧
          (↑ps.length : Int) ≤ (100 : Int) ∧
            (0 : Int) ≤
                (↑N : Int) + (8 : Int) + (8 : Int) + (1 : Int) + (1 : Int) + (1 : Int) + (1 : Int) + (1 : Int) +
                        (↑(s_actsN
                              (s_drop
                                (((↑N : Int) + (8 : Int) + (8 : Int) + (1 : Int) + (1 : Int) + (1 : Int) +
                                      (1 : Int)).toNat +
                                  (1 : Nat))
                                rs)
                              k113) :
                          Int) +
                      (4 : Int) +
                    (1 : Int) +
                  (1 : Int) ∧
              (↑N : Int) + (8 : Int) + (8 : Int) + (1 : Int) + (1 : Int) + (1 : Int) + (1 : Int) + (1 : Int) +
                          (↑(s_actsN
                                (s_drop
                                  (((↑N : Int) + (8 : Int) + (8 : Int) + (1 : Int) + (1 : Int) + (1 : Int) +
                                        (1 : Int)).toNat +
                                    (1 : Nat))
                                  rs)
                                k113) :
                            Int) +
                        (4 : Int) +
                      (1 : Int) +
                    (1 : Int) ≤
                  (100000 : Int) ∧
                s_bytes rs)) ∧
  ((((((s_at rs
        ((↑N : Int) + (8 : Int) + (8 : Int) + (1 : Int) + (1 : Int) + (1 : Int) + (1 : Int) + (1 : Int) +
                (↑(s_actsN
                      (s_drop
                        (((↑N : Int) + (8 : Int) + (8 : Int) + (1 : Int) + (1 : Int) + (1 : Int) + (1 : Int)).toNat +
                          (1 : Nat))
                        rs)
                      k113) :
                  Int) +
              (4 : Int) +
            (1 : Int)).toNat).tmod
    (16 : Int) =
  (0 : Int)) →
  Q ((AV.agg
    [AV.sl (0 : Nat) (0 : Nat) (↑N : Int).toNat,
      AV.row false [K.int IntKind.i64] (s_rowi (s_sg (s_drop (↑N : Int).toNat rs) (1 : Int) (8 : Nat))),
      AV.row false [K.int IntKind.i64] (s_rowi (s_sg (s_drop ((↑N : Int) + (8 : Int)).toNat rs) (1 : Int) (8 : Nat))),
      AV.nils, AV.int IntKind.i64 ((s_at rs ((↑N : Int) + (8 : Int) + (8 : Int)).toNat).tmod (3 : Int)),
      AV.int IntKind.i64 (0 : Int),
      AV.int IntKind.i64 ((s_at rs ((↑N : Int) + (8 : Int) + (8 : Int) + (1 : Int) + (1 : Int)).toNat).tmod (60 : Int)),
      AV.int IntKind.i64
        (IntKind.i64.wrap
          ((s_at rs ((↑N : Int) + (8 : Int) + (8 : Int) + (1 : Int) + (1 : Int)).toNat).tmod (60 : Int) +
            (s_at rs ((↑N : Int) + (8 : Int) + (8 : Int) + (1 : Int) + (1 : Int) + (1 : Int)).toNat).tmod (60 : Int))),
      AV.row nl'112 [K.int IntKind.i64, K.int IntKind.i64, K.str]
        (s_acts
          (s_drop
            (((↑N : Int) + (8 : Int) + (8 : Int) + (1 : Int) + (1 : Int) + (1 : Int) + (1 : Int)).toNat + (1 : Nat)) rs)
          k113),
      AV.row false [K.int IntKind.i64]
        (s_rowi
          (s_sg
            (s_drop
              ((↑N : Int) + (8 : Int) + (8 : Int) + (1 : Int) + (1 : Int) + (1 : Int) + (1 : Int) + (1 : Int) +
                  (↑(s_actsN
                        (s_drop
                          (((↑N : Int) + (8 : Int) + (8 : Int) + (1 : Int) + (1 : Int) + (1 : Int) + (1 : Int)).toNat +
                            (1 : Nat))
                          rs)
                        k113) :
                    Int)).toNat
              rs)
            (8 : Int) (4 : Nat))),
      AV.int IntKind.i64
        (IntKind.i64.wrap
          ((20 : Int) +
            (s_at rs
                  ((↑N : Int) + (8 : Int) + (8 : Int) + (1 : Int) + (1 : Int) + (1 : Int) + (1 : Int) + (1 : Int) +
                        (↑(s_actsN
                              (s_drop
                                (((↑N : Int) + (8 : Int) + (8 : Int) + (1 : Int) + (1 : Int) + (1 : Int) +
                                      (1 : Int)).toNat +
                                  (1 : Nat))
                                rs)
                              k113) :
                          Int) +
                      (4 : Int)).toNat).tmod
              (40 : Int)))],
  [AObj.arr (2 : Nat) (3 : Nat) [K.int IntKind.i64] rows'101])))) ∧
  ((∀ (rows'120 : List (List AV)),
  ((rows'120 =
  s_calls (↑N : Int) (↑ps.length : Int)
    (s_drop
      ((↑N : Int) + (8 : Int) + (8 : Int) + (1 : Int) + (1 : Int) + (1 : Int) + (1 : Int) + (1 : Int) +
                (↑(s_actsN
                      (s_drop
                        (((↑N : Int) + (8 : Int) + (8 : Int) + (1 : Int) + (1 : Int) + (1 : Int) + (1 : Int)).toNat +
                          (1 : Nat))
                        rs)
                      k113) :
                  Int) +
              (4 : Int) +
            (1 : Int) +
          (1 : Int)).toNat
      rs)
    ((s_at rs
            ((↑N : Int) + (8 : Int) + (8 : Int) + (1 : Int) + (1 : Int) + (1 : Int) + (1 : Int) + (1 : Int) +
                    (↑(s_actsN
                          (s_drop
                            (((↑N : Int) + (8 : Int) + (8 : Int) + (1 : Int) + (1 : Int) + (1 : Int) +
                                  (1 : Int)).toNat +
                              (1 : Nat))
                            rs)
                          k113) :
                      Int) +
                  (4 : Int) +
                (1 : Int)).toNat).tmod
        (16 : Int)).toNat) →
  Q ((AV.agg
    [AV.sl (0 : Nat) (0 : Nat) (↑N : Int).toNat,
      AV.row false [K.int IntKind.i64] (s_rowi (s_sg (s_drop (↑N : Int).toNat rs) (1 : Int) (8 : Nat))),
      AV.row false [K.int IntKind.i64] (s_rowi (s_sg (s_drop ((↑N : Int) + (8 : Int)).toNat rs) (1 : Int) (8 : Nat))),
      AV.sl (1 : Nat) (0 : Nat)
        ((s_at rs
                ((↑N : Int) + (8 : Int) + (8 : Int) + (1 : Int) + (1 : Int) + (1 : Int) + (1 : Int) + (1 : Int) +
                        (↑(s_actsN
                              (s_drop
                                (((↑N : Int) + (8 : Int) + (8 : Int) + (1 : Int) + (1 : Int) + (1 : Int) +
                                      (1 : Int)).toNat +
                                  (1 : Nat))
                                rs)
                              k113) :
                          Int) +
                      (4 : Int) +
                    (1 : Int)).toNat).tmod
            (16 : Int)).toNat,
      AV.int IntKind.i64 ((s_at rs ((↑N : Int) + (8 : Int) + (8 : Int)).toNat).tmod (3 : Int)),
      AV.int IntKind.i64 (0 : Int),
      AV.int IntKind.i64 ((s_at rs ((↑N : Int) + (8 : Int) + (8 : Int) + (1 : Int) + (1 : Int)).toNat).tmod (60 : Int)),
      AV.int IntKind.i64
        (IntKind.i64.wrap
          ((s_at rs ((↑N : Int) + (8 : Int) + (8 : Int) + (1 : Int) + (1 : Int)).toNat).tmod (60 : Int) +
            (s_at rs ((↑N : Int) + (8 : Int) + (8 : Int) + (1 : Int) + (1 : Int) + (1 : Int)).toNat).tmod (60 : Int))),
      AV.row nl'112 [K.int IntKind.i64, K.int IntKind.i64, K.str]
        (s_acts
          (s_drop
            (((↑N : Int) + (8 : Int) + (8 : Int) + (1 : Int) + (1 : Int) + (1 : Int) + (1 : Int)).toNat + (1 : Nat)) rs)
          k113),
      AV.row false [K.int IntKind.i64]
        (s_rowi
          (s_sg
            (s_drop
              ((↑N : Int) + (8 : Int) + (8 : Int) + (1 : Int) + (1 : Int) + (1 : Int) + (1 : Int) + (1 : Int) +
                  (↑(s_actsN
                        (s_drop
                          (((↑N : Int) + (8 : Int) + (8 : Int) + (1 : Int) + (1 : Int) + (1 : Int) + (1 : Int)).toNat +
                            (1 : Nat))
                          rs)
                        k113) :
                    Int)).toNat
              rs)
            (8 : Int) (4 : Nat))),
      AV.int IntKind.i64
        (IntKind.i64.wrap
          ((20 : Int) +
            (s_at rs
                  ((↑N : Int) + (8 : Int) + (8 : Int) + (1 : Int) + (1 : Int) + (1 : Int) + (1 : Int) + (1 : Int) +
                        (↑(s_actsN
                              (s_drop
                                (((↑N : Int) + (8 : Int) + (8 : Int) + (1 : Int) + (1 : Int) + (1 : Int) +
                                      (1 : Int)).toNat +
                                  (1 : Nat))
                                rs)
                              k113) :
                          Int) +
                      (4 : Int)).toNat).tmod
              (40 : Int)))],
  [AObj.arr (2 : Nat) (3 : Nat) [K.int IntKind.i64] rows'101,
    AObj.arr (2 : Nat) (43 : Nat) [K.int IntKind.i64, K.int IntKind.i64, K.int IntKind.i64, K.int IntKind.i64]
      rows'120])))))))))))))))))))))))))))))))))))))) := by kernel_rfl
end Go.Proofs.YthihinlamlamhaaE
/- The document's script of bytes: the specs hold. -/
namespace Go.Proofs.YthihinlamlamhaaE
open Go
set_option linter.unusedVariables false
set_option linter.unusedSimpArgs false
set_option maxRecDepth 100000

theorem on_last (rs : List (List AV)) (j : Nat) : s_rowi (s_on rs (j + 1)) = s_rowi (s_on rs j) ++ [[.int .i64 ((s_at rs j).tmod 24)]] := by
  unfold s_rowi s_on irow
  rw [List.range_succ, List.map_append, List.map_append]
  rfl
theorem okLOnR : OkLp Try.prog H0 13 4 lOnR := by
  refine okLp_of (U := 6) (k := 6) okT3 lOnR (fun vals h => match vals, h with | [_, _, _, _, .int _ i], .box (.int _ n :: _) :: _ => (n - i).toNat | _, _ => 0) fun vals h Q hl => ?_
  unfold lOnR at hl
  split at hl
  case h_2 => exact hl.elim
  rename_i i n pi e g fi nl ps nl2 rs p C rest
  unfold lOnA at hl
  split at hl
  · obtain ⟨⟨h0, h1, h2, h3, h4⟩, hq⟩ := hyp_iff.1 hl
    subst h0; subst h3
    refine to (nf13a ..) (br_intro (fun hc => ⟨.mk ⟨by omega, by omega, h4⟩, ?_⟩) fun hc => ?_)
    · rw [show IntKind.i64.wrap ((0 : Int) + 1) = 1 by decide]
      exact ⟨by show (n - 1).toNat < (n - 0).toNat; omega, ⟨rfl, h1, h1, h2, by omega, h4, rfl⟩, hq⟩
    · have := of_decide_eq_false hc; omega
  · rename_i j rows
    obtain ⟨⟨h0, h1, h2, h3, h4, h5, h6⟩, hq⟩ := hl
    subst h0; subst h4; subst h6
    have hlen : (s_rowi (s_on rs j)).length = j := by unfold s_rowi; rw [irow_len, on_len]
    refine to (nf13b ..) (br_intro (fun hc => ⟨.mk ⟨by omega, by omega, h5⟩, ?_⟩) fun hc => ?_)
    · have hc := of_decide_eq_true hc
      rw [chk_iff, chk_iff, chk_iff]
      refine ⟨hlen.symm, by omega, by omega, ?_⟩
      rw [wr (x := (j : Int) + 1) (by omega) (by omega), hlen, show ((j : Int)).toNat = j by omega]
      exact ⟨by show (n - ((j : Int) + 1)).toNat < (n - (j : Int)).toNat; omega, ⟨by omega, by omega, h2, h3, by omega, h5, (on_last rs j).symm⟩, hq⟩
    · have hc := of_decide_eq_false hc
      have e : n = j := by omega
      subst e
      have := hq _ rfl
      rwa [show ((j : Int)).toNat = j by omega] at this
  · exact hl.elim
theorem call_form (rs : List (List AV)) (n np : Int) {p : Int} (hp : 0 ≤ p) : [AV.int IntKind.i64 ((s_at rs p.toNat).tmod 60), AV.int IntKind.i64 ((s_at rs (p + 1).toNat).tmod n), AV.int IntKind.i64 ((s_at rs (p + 1 + 1).toNat).tmod (np + 1)), AV.int IntKind.i64 (s_at rs (p + 1 + 1 + 1).toNat)] = s_call n np (s_drop p.toNat rs) := by
  unfold s_call
  rw [at_drop, at_drop, at_drop, at_drop, show (p + 1).toNat = p.toNat + 1 by omega, show (p + 1 + 1).toNat = p.toNat + 2 by omega, show (p + 1 + 1 + 1).toNat = p.toNat + 3 by omega]
  rfl
theorem okLCallsR : OkLp Try.prog H0 13 23 lCallsR := by
  refine okLp_of (U := 6) (k := 6) okT3 lCallsR (fun vals _ => match vals with | [_, _, _, _, .int _ m, .int _ i] => (m - i).toNat | _ => 0) fun vals h Q hl => ?_
  unfold lCallsR at hl
  split at hl
  case h_2 => exact hl.elim
  rename_i m i n pi e g fi nl ps nl2 rs p n0 a1 r1 a2 r2 C k at_ fr to_ a3 r3 a4 r4 z rest
  unfold lClR at hl
  split at hl
  · rename_i r0
    obtain ⟨⟨h0, h1, h2, h3, h4, h5, h6, h7, h8⟩, hq1, hq2⟩ := hyp_iff.1 hl
    subst h0
    refine to (nf13c ..) (br_intro (fun hc => ?_) fun hc => ?_)
    · have hc := of_decide_eq_true hc
      rw [wr (x := (ps.length : Int) + 1) (by omega) (by omega), chk_iff, chk_iff, call_form rs n ps.length h6, show IntKind.i64.wrap ((0 : Int) + 1) = 1 by decide]
      refine ⟨.mk ⟨h6, by omega, h8⟩, h3, .mk ⟨by omega, by omega, h8⟩, by omega, .mk ⟨by omega, by omega, h8⟩, .mk ⟨by omega, by omega, h8⟩, ?_⟩
      refine ⟨by show (m - 1).toNat < (m - 0).toNat; omega, ⟨rfl, by omega, h2, h3, h4, h5, by omega, by omega, h8, rfl⟩, fun rows' hr => hq2 rows' ?_⟩
      rw [hr, show m.toNat = (m - 1).toNat + 1 by omega]
      simp only [s_calls]
      rw [dd, show (p + 1 + 1 + 1 + 1).toNat = p.toNat + 4 by omega]; rfl
    · have hc := of_decide_eq_false hc
      exact hq1 (by omega)
  · rename_i j r0 rows
    obtain ⟨⟨h0, h1, h2, h3, h4, h5, h6, h7, h8, h9⟩, hq2⟩ := hl
    subst h0
    refine to (nf13d ..) (br_intro (fun hc => ?_) fun hc => ?_)
    · have hc := of_decide_eq_true hc
      rw [wr (x := (ps.length : Int) + 1) (by omega) (by omega), chk_iff, chk_iff, chk_iff, chk_iff, chk_iff, call_form rs n ps.length h6, wr (x := (j : Int) + 1) (by omega) (by omega), h9]
      refine ⟨.mk ⟨h6, by omega, h8⟩, h3, .mk ⟨by omega, by omega, h8⟩, by omega, .mk ⟨by omega, by omega, h8⟩, .mk ⟨by omega, by omega, h8⟩, rfl, by omega, by omega, ?_⟩
      refine ⟨by show (m - ((j : Int) + 1)).toNat < (m - (j : Int)).toNat; omega, ⟨by omega, by omega, h2, h3, h4, h5, by omega, by omega, h8, by rw [List.length_append, h9]; rfl⟩, fun rows' hr => hq2 rows' ?_⟩
      rw [hr, show (m - (j : Int)).toNat = (m - ((j : Int) + 1)).toNat + 1 by omega, List.append_assoc]
      simp only [s_calls]
      rw [dd, show (p + 1 + 1 + 1 + 1).toNat = p.toNat + 4 by omega]; rfl
    · have hc := of_decide_eq_false hc
      have e : m = j := by omega
      subst e
      have := hq2 rows (by rw [Int.sub_self]; simp [s_calls])
      rwa [show ((j : Int)).toNat = j by omega] at this
  · exact hl.elim
theorem okT4 : OkSp Try.prog H0 T4 := ⟨okT3.fn, okLOnR, okLCallsR, trivial⟩
end Go.Proofs.YthihinlamlamhaaE
