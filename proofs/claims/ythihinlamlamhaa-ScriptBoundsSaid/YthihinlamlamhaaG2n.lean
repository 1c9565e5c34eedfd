/- What path mode says of functions, printed by a program of this session; the kernel holds each. -/
import Derived.Test.YthihinlamlamhaaG2d
import Derived.KernelRfl
namespace Go.Proofs.YthihinlamlamhaaE
open Go
set_option maxRecDepth 100000
set_option linter.unusedVariables false
theorem nf43 (nl : Bool) (rs : List (List AV)) (Q : AV × List AObj → Prop) : inlW Try.prog H0 S1 6 (InO Try.prog H0 S1 6 6) 43 [.ptr 0 0] [.box [.row nl [.int .u8] rs]] Q = (
br ((↑rs.length : Int) == (0 : Int))
 (Q ((AV.int IntKind.i64 (0 : Int), [AObj.box [AV.row nl [K.int IntKind.u8] rs]])))
 (chk ((0 : Int) ≤ (0 : Int) ∧ (0 : Int) < (↑rs.length : Int)) (chk ((0 : Int) ≤ (1 : Int) ∧ (1 : Int) ≤ (↑rs.length : Int)) (Q ((AV.int IntKind.i64 (IntKind.i64.wrap ((rs.getD (0 : Nat) []).getD (0 : Nat) AV.gone).toI),
  [AObj.box [AV.row nl [K.int IntKind.u8] (List.drop (1 : Nat) (List.take rs.length rs))]])))))) := by kernel_rfl
theorem nf22 (n : Int) (nl : Bool) (rs : List (List AV)) (Q : AV × List AObj → Prop) : inlW Try.prog H0 S2 6 (InO Try.prog H0 S2 6 6) 22 [.ptr 0 0, .int .i64 n] [.box [.row nl [.int .u8] rs]] Q = (
chk (n ≠ (0 : Int)) (Q ((AV.int IntKind.i64 ((s_hd rs).tmod n), [AObj.box [AV.row nl [K.int IntKind.u8] (s_drop (1 : Nat) rs)]])))) := by kernel_rfl
theorem nf23a (n : Int) (nl : Bool) (rs : List (List AV)) (Q : AV × List AObj → Prop) : inlW Try.prog H0 S3L 6 (InO Try.prog H0 S3L 6 6) 23 [.int .i64 n, .fn (.func 21) [] [.ptr 0 0]] [.box [.ptr 1 0], .box [.row nl [.int .u8] rs]] Q = (
chk ((0 : Int) ≤ n ∧ n ≤ n ∧ (↑(8 : Nat) : Int) * n ≤ (140737488355328 : Int)) (chk (n ≤ (9223372036854775807 : Int)) (((Hyp ((↑n.toNat : Int) = (↑n.toNat : Int) ∧
  (0 : Int) ≤ (0 : Int) ∧
    (0 : Int) ≤ (↑n.toNat : Int) ∧
      n.toNat ≤ (100 : Nat) ∧
        (List.replicate n.toNat [AV.int IntKind.i64 (0 : Int)]).length = n.toNat ∧
          ∀ (r : List AV),
            r ∈
                mapRows (fun x => idx x [nat_lit 0, nat_lit 1, nat_lit 2])
                  (shapeOf
                    (ctxW Try.prog H0 (23 : FuncId)
                        [AObj.box [AV.ptr (1 : Nat) (0 : Nat)], AObj.box [AV.row nl [K.int IntKind.u8] rs]].length).P
                    (20 : Nat) (3 : Nat))
                  (List.replicate n.toNat [cst (Value.int IntKind.i64 (0 : Int))]) →
              r.length = (1 : Nat))) ∧
((∀ (rows'103 : List (List AV)),
((rows'103 = [] ++ List.map (fun n => [AV.int IntKind.i64 n]) (s_on rs (n.toNat - (0 : Nat)))) →
chk ((0 : Nat) + n.toNat ≤ rows'103.length) (Q ((AV.row false [K.int IntKind.i64] (List.take n.toNat (List.drop (0 : Nat) rows'103)),
  [AObj.box [AV.ptr (1 : Nat) (0 : Nat)], AObj.box [AV.row nl [K.int IntKind.u8] (s_drop (n.toNat - (0 : Nat)) rs)]])))))))))) := by kernel_rfl
theorem nf23b (n t : Int) (nl : Bool) (rs : List (List AV)) (Q : AV × List AObj → Prop) : inlW Try.prog H0 S3L 6 (InO Try.prog H0 S3L 6 6) 23 [.int .i64 n, .fn (.func 44) [] [.ptr 0 0, .ptr 2 0]] [.box [.ptr 1 0], .box [.row nl [.int .u8] rs], .box [.int .i64 t]] Q = (
chk ((0 : Int) ≤ n ∧ n ≤ n ∧ (↑(8 : Nat) : Int) * n ≤ (140737488355328 : Int)) (chk (n ≤ (9223372036854775807 : Int)) (((Hyp ((↑n.toNat : Int) = (↑n.toNat : Int) ∧
  (0 : Int) ≤ (0 : Int) ∧
    (0 : Int) ≤ (↑n.toNat : Int) ∧
      n.toNat ≤ (100 : Nat) ∧
        (List.replicate n.toNat [AV.int IntKind.i64 (0 : Int)]).length = n.toNat ∧
          ∀ (r : List AV),
            r ∈
                mapRows (fun x => idx x [nat_lit 0, nat_lit 1, nat_lit 2, nat_lit 3])
                  (shapeOf
                    (ctxW Try.prog H0 (23 : FuncId)
                        [AObj.box [AV.ptr (1 : Nat) (0 : Nat)], AObj.box [AV.row nl [K.int IntKind.u8] rs],
                            AObj.box [AV.int IntKind.i64 t]].length).P
                    (20 : Nat) (3 : Nat))
                  (List.replicate n.toNat [cst (Value.int IntKind.i64 (0 : Int))]) →
              r.length = (1 : Nat))) ∧
((∀ (rows'103 : List (List AV)),
((rows'103 = [] ++ List.map (fun n => [AV.int IntKind.i64 n]) (s_sg rs t (n.toNat - (0 : Nat)))) →
chk ((0 : Nat) + n.toNat ≤ rows'103.length) (Q ((AV.row false [K.int IntKind.i64] (List.take n.toNat (List.drop (0 : Nat) rows'103)),
  [AObj.box [AV.ptr (1 : Nat) (0 : Nat)], AObj.box [AV.row nl [K.int IntKind.u8] (s_drop (n.toNat - (0 : Nat)) rs)],
    AObj.box [AV.int IntKind.i64 t]])))))))))) := by kernel_rfl
theorem nf23c (m i : Int) (n : Nat) (nl : Bool) (rs rows : List (List AV)) (Q : Ex → List AV → List AObj → Prop) : lpBody Try.prog H0 S3 6 6 23 2003 [.fn (.func 21) [] [.ptr 0 0], .sl 2 0 n, .int .i64 m, .int .i64 i] [.box [.ptr 1 0], .box [.row nl [.int .u8] rs], .arr 2 3 [.int .i64] rows] Q = (
br (decide (i < m))
 (chk ((0 : Int) ≤ i ∧ i < (↑n : Int)) (chk ((0 : Nat) + i.toNat < rows.length) (Q (Ex.nrm) ([AV.fn (Fn.func (21 : Nat)) [] [AV.ptr (0 : Nat) (0 : Nat)], AV.sl (2 : Nat) (0 : Nat) n, AV.int IntKind.i64 m,
  AV.int IntKind.i64 (IntKind.i64.wrap (i + (1 : Int)))]) ([AObj.box [AV.ptr (1 : Nat) (0 : Nat)], AObj.box [AV.row nl [K.int IntKind.u8] (s_drop (1 : Nat) rs)],
  AObj.arr (2 : Nat) (3 : Nat) [K.int IntKind.i64]
    (rows.set ((0 : Nat) + i.toNat)
      (AV.int IntKind.i64 ((s_hd rs).tmod (24 : Int)) ::
        List.drop ((0 : Nat) + (1 : Nat)) (rows.getD ((0 : Nat) + i.toNat) [])))]))))
 (Q (Ex.exit (0 : Nat)) ([AV.sl (2 : Nat) (0 : Nat) n]) ([AObj.box [AV.ptr (1 : Nat) (0 : Nat)], AObj.box [AV.row nl [K.int IntKind.u8] rs],
  AObj.arr (2 : Nat) (3 : Nat) [K.int IntKind.i64] rows]))) := by kernel_rfl
theorem nf23d (m i t : Int) (n : Nat) (nl : Bool) (rs rows : List (List AV)) (Q : Ex → List AV → List AObj → Prop) : lpBody Try.prog H0 S3 6 6 23 3003 [.fn (.func 44) [] [.ptr 0 0, .ptr 2 0], .sl 3 0 n, .int .i64 m, .int .i64 i] [.box [.ptr 1 0], .box [.row nl [.int .u8] rs], .box [.int .i64 t], .arr 2 3 [.int .i64] rows] Q = (
br (decide (i < m))
 (chk ((0 : Int) ≤ i ∧ i < (↑n : Int)) (chk ((0 : Nat) + i.toNat < rows.length) (Q (Ex.nrm) ([AV.fn (Fn.func (44 : Nat)) [] [AV.ptr (0 : Nat) (0 : Nat), AV.ptr (2 : Nat) (0 : Nat)], AV.sl (3 : Nat) (0 : Nat) n,
  AV.int IntKind.i64 m, AV.int IntKind.i64 (IntKind.i64.wrap (i + (1 : Int)))]) ([AObj.box [AV.ptr (1 : Nat) (0 : Nat)], AObj.box [AV.row nl [K.int IntKind.u8] (s_drop (1 : Nat) rs)],
  AObj.box [AV.int IntKind.i64 t],
  AObj.arr (2 : Nat) (3 : Nat) [K.int IntKind.i64]
    (rows.set ((0 : Nat) + i.toNat)
      (AV.int IntKind.i64 (IntKind.i64.wrap (IntKind.i64.wrap (s_hd rs - (128 : Int)) * t)) ::
        List.drop ((0 : Nat) + (1 : Nat)) (rows.getD ((0 : Nat) + i.toNat) [])))]))))
 (Q (Ex.exit (0 : Nat)) ([AV.sl (3 : Nat) (0 : Nat) n]) ([AObj.box [AV.ptr (1 : Nat) (0 : Nat)], AObj.box [AV.row nl [K.int IntKind.u8] rs], AObj.box [AV.int IntKind.i64 t],
  AObj.arr (2 : Nat) (3 : Nat) [K.int IntKind.i64] rows]))) := by kernel_rfl
theorem nf45 (nl : Bool) (rs : List (List AV)) (Q : AV × List AObj → Prop) : inlW Try.prog H0 S3L 6 (InO Try.prog H0 S3L 6 6) 45 [.ptr 0 0] [.box [.row nl [.int .u8] rs]] Q = (
((Hyp ((0 : Int) ≤ (0 : Int) ∧
  (0 : Int) ≤ (s_hd rs).tmod (4 : Int) ∧
    (s_hd rs).tmod (4 : Int) ≤ (1000 : Int) ∧ (0 : Int) = (0 : Int) ∧ s_bytes (s_drop (1 : Nat) rs))) ∧
(Q ((AV.str (s_text (s_drop (1 : Nat) rs) ((s_hd rs).tmod (4 : Int) - (0 : Int)).toNat (0 : Nat) (ByteArray.mk #[])),
  [AObj.box [AV.row nl [K.int IntKind.u8] (s_drop ((s_hd rs).tmod (4 : Int) - (0 : Int)).toNat (s_drop (1 : Nat) rs))]]))))) := by kernel_rfl
theorem nf45a (m i : Int) (s : ByteArray) (nl : Bool) (rs : List (List AV)) (Q : Ex → List AV → List AObj → Prop) : lpBody Try.prog H0 S3 6 6 45 1003 [.ptr 0 0, .str s, .int .i64 m, .int .i64 i] [.box [.row nl [.int .u8] rs]] Q = (
br (decide (i < m))
 (chk ((0 : Int) ≤ (s_hd rs).tmod (3 : Int) ∧ (s_hd rs).tmod (3 : Int) < (3 : Int)) (chk ((s.size +
        (Utf8.encode
            (↑((ByteArray.mk #[(48 : UInt8), (49 : UInt8), (35 : UInt8)]).data.toList.getD ((s_hd rs).tmod (3 : Int)).toNat
                    (0 : UInt8)).toNat :
              Int)).size).ble
    (9223372036854775807 : Nat) =
  true) (Q (Ex.nrm) ([AV.ptr (0 : Nat) (0 : Nat),
  AV.str
    (s ++
      Utf8.encode
        (↑((ByteArray.mk #[(48 : UInt8), (49 : UInt8), (35 : UInt8)]).data.toList.getD ((s_hd rs).tmod (3 : Int)).toNat
                (0 : UInt8)).toNat :
          Int)),
  AV.int IntKind.i64 m, AV.int IntKind.i64 (IntKind.i64.wrap (i + (1 : Int)))]) ([AObj.box [AV.row nl [K.int IntKind.u8] (s_drop (1 : Nat) rs)]]))))
 (Q (Ex.exit (0 : Nat)) ([AV.str s]) ([AObj.box [AV.row nl [K.int IntKind.u8] rs]]))) := by kernel_rfl
end Go.Proofs.YthihinlamlamhaaE
