/- script.Of of bytes that are written to behind it. -/
import Derived.Test.YthihinlamlamhaaBbD
import Derived.KernelRfl
namespace Go.Proofs.YthihinlamlamhaaE
open Go
set_option linter.unusedVariables false

def sCloneX : SW := fun args h Q => match args, h with
  | [.sl 0 0 m], [.arr 2 5 [.int .u8] rs] => Hyp (m = rs.length ∧ rs.length ≤ 100000) ∧ Q (.row false [.int .u8] rs, [.arr 2 5 [.int .u8] rs])
  | _, _ => False
def lClA (xs : List (List AV)) (i m n np k at_ fr to_ z : Int) (a0 a1 a2 a3 a4 : Bool) (r0 r1 r2 r3 r4 : List (List AV)) (Q : Ex → List AV → List AObj → Prop) (F : AV) (C : AV) (rest : List AObj) : Prop := match F, C, rest with
  | .fn (.func 26) [.ptr 4 0] [], .nils, [.box [.row nl2 [.int .u8] rs]] => Hyp (i = 0 ∧ 0 ≤ m ∧ m ≤ 100 ∧ n ≠ 0 ∧ 0 ≤ np ∧ np ≤ 100) ∧
      ((m = 0 → Q (.exit 0) [.ptr 1 0, .ptr 2 0] [.arr 2 5 [.int .u8] xs, .box [.nils, .nils, .nils, .nils, .int .i64 0, .int .i64 0, .int .i64 0, .int .i64 0, .nils, .nils, .int .i64 0],
        .box [.row a0 [.int .i64] r0, .row a1 [.int .i64] r1, .row a2 [.int .i64] r2, .nils, .int .i64 k, .int .i64 at_, .int .i64 fr, .int .i64 to_, .row a3 [.int .i64, .int .i64, .str] r3, .row a4 [.int .i64] r4, .int .i64 z]]) ∧
       (∀ rows', rows' = s_calls n np rs m.toNat → Q (.exit 0) [.ptr 1 0, .ptr 2 0] [.arr 2 5 [.int .u8] xs, .box [.nils, .nils, .nils, .nils, .int .i64 0, .int .i64 0, .int .i64 0, .int .i64 0, .nils, .nils, .int .i64 0],
        .box [.row a0 [.int .i64] r0, .row a1 [.int .i64] r1, .row a2 [.int .i64] r2, .sl 3 0 m.toNat, .int .i64 k, .int .i64 at_, .int .i64 fr, .int .i64 to_, .row a3 [.int .i64, .int .i64, .str] r3, .row a4 [.int .i64] r4, .int .i64 z],
        .arr 2 43 [.int .i64, .int .i64, .int .i64, .int .i64] rows']))
  | .fn (.func 26) [.ptr 5 0] [], .sl 4 0 j, [.arr 2 43 [.int .i64, .int .i64, .int .i64, .int .i64] rows, .box [.row nl2 [.int .u8] rs]] => (i = j ∧ i ≤ m ∧ m ≤ 100 ∧ n ≠ 0 ∧ 0 ≤ np ∧ np ≤ 100 ∧ rows.length = j) ∧
       (∀ rows', rows' = rows ++ s_calls n np rs (m - i).toNat → Q (.exit 0) [.ptr 1 0, .ptr 2 0] [.arr 2 5 [.int .u8] xs, .box [.nils, .nils, .nils, .nils, .int .i64 0, .int .i64 0, .int .i64 0, .int .i64 0, .nils, .nils, .int .i64 0],
        .box [.row a0 [.int .i64] r0, .row a1 [.int .i64] r1, .row a2 [.int .i64] r2, .sl 3 0 m.toNat, .int .i64 k, .int .i64 at_, .int .i64 fr, .int .i64 to_, .row a3 [.int .i64, .int .i64, .str] r3, .row a4 [.int .i64] r4, .int .i64 z],
        .arr 2 43 [.int .i64, .int .i64, .int .i64, .int .i64] rows'])
  | _, _, _ => False
def lCallsA : LW := fun vals h Q => match vals, h with
  | [.ptr 1 0, .ptr 2 0, .ptr 3 0, F, .int .i64 m, .int .i64 i], .arr 2 5 [.int .u8] xs :: .box [.int .i64 n, .int .i64 pi, .int .i64 e, .int .i64 g, .int .i64 fi, .row nl [.int .i64] ps] ::
      .box [.nils, .nils, .nils, .nils, .int .i64 0, .int .i64 0, .int .i64 0, .int .i64 0, .nils, .nils, .int .i64 0] ::
      .box [.row a0 [.int .i64] r0, .row a1 [.int .i64] r1, .row a2 [.int .i64] r2, C, .int .i64 k, .int .i64 at_, .int .i64 fr, .int .i64 to_, .row a3 [.int .i64, .int .i64, .str] r3, .row a4 [.int .i64] r4, .int .i64 z] :: rest =>
    lClA xs i m n ps.length k at_ fr to_ z a0 a1 a2 a3 a4 r0 r1 r2 r3 r4 Q F C rest
  | _, _ => False
def sOfB : SW := fun args h Q => match args, h with
  | [.agg [.int .i64 n, .int .i64 pi, .int .i64 e, .int .i64 g, .int .i64 fi, .row nl [.int .i64] ps], .row nl2 [.int .u8] rs], [] =>
    Hyp (s_confOk n pi e g fi (ints ps) = true ∧ s_bytes rs ∧ (nl2 = true → rs = []) ∧ rs.length ≤ 100000) ∧ ∀ rs', rs' = rs → ∀ nl' : Bool, Q (.agg [.row false [.int .i64] (s_rowi (s_on rs' n.toNat)), .row false [.int .i64] (s_rowi (s_sg (s_drop n.toNat rs') 1 8)), .row false [.int .i64] (s_rowi (s_sg (s_drop (n.toNat + 8) rs') 1 8)),
      .row nl' [.int .i64, .int .i64, .int .i64, .int .i64] (s_calls n ps.length (s_drop (s_rN n rs' + 1 + 1) rs') (s_cN n rs')),
      .int .i64 ((s_at rs' (n.toNat + 8 + 8 + 0)).tmod 3), .int .i64 (s_fat n ((s_at rs' (n.toNat + 8 + 8 + 0)).tmod 3) (s_at rs' (n.toNat + 8 + 8 + 1))), .int .i64 ((s_at rs' (n.toNat + 8 + 8 + 2)).tmod 60), .int .i64 ((s_at rs' (n.toNat + 8 + 8 + 2)).tmod 60 + (s_at rs' (n.toNat + 8 + 8 + 3)).tmod 60),
      .row false [.int .i64, .int .i64, .str] (s_acts (s_drop (n.toNat + 8 + 8 + 5) rs') (s_fA (s_drop (n.toNat + 8 + 8) rs'))), .row false [.int .i64] (s_rowi (s_sg (s_drop (n.toNat + 8 + 8 + s_fN (s_drop (n.toNat + 8 + 8) rs')) rs') 8 4)),
      .int .i64 (20 + (s_at rs' (s_rN n rs' + 0)).tmod 40)], [])
  | [.agg [.int .i64 n, .int .i64 pi, .int .i64 e, .int .i64 g, .int .i64 fi, .row nl [.int .i64] ps], .sl 0 0 m], [.arr 2 5 [.int .u8] rs] =>
    Hyp (s_confOk n pi e g fi (ints ps) = true ∧ s_bytes rs ∧ m = rs.length ∧ rs.length ≤ 100000) ∧ ∀ rs', rs' = rs → ∀ nl' : Bool, Q (.agg [.row false [.int .i64] (s_rowi (s_on rs' n.toNat)), .row false [.int .i64] (s_rowi (s_sg (s_drop n.toNat rs') 1 8)), .row false [.int .i64] (s_rowi (s_sg (s_drop (n.toNat + 8) rs') 1 8)),
      .row nl' [.int .i64, .int .i64, .int .i64, .int .i64] (s_calls n ps.length (s_drop (s_rN n rs' + 1 + 1) rs') (s_cN n rs')),
      .int .i64 ((s_at rs' (n.toNat + 8 + 8 + 0)).tmod 3), .int .i64 (s_fat n ((s_at rs' (n.toNat + 8 + 8 + 0)).tmod 3) (s_at rs' (n.toNat + 8 + 8 + 1))), .int .i64 ((s_at rs' (n.toNat + 8 + 8 + 2)).tmod 60), .int .i64 ((s_at rs' (n.toNat + 8 + 8 + 2)).tmod 60 + (s_at rs' (n.toNat + 8 + 8 + 3)).tmod 60),
      .row false [.int .i64, .int .i64, .str] (s_acts (s_drop (n.toNat + 8 + 8 + 5) rs') (s_fA (s_drop (n.toNat + 8 + 8) rs'))), .row false [.int .i64] (s_rowi (s_sg (s_drop (n.toNat + 8 + 8 + s_fN (s_drop (n.toNat + 8 + 8) rs')) rs') 8 4)),
      .int .i64 (20 + (s_at rs' (s_rN n rs' + 0)).tmod 40)], [.arr 2 5 [.int .u8] rs])
  | _, _ => False
def Y1 : Sp := ⟨(20, sCloneX) :: S6.fn, []⟩
def Y1L : Sp := ⟨Y1.fn, [(11, 1013, lCallsA)]⟩
def Y2 : Sp := ⟨(11, sOfB) :: T8.fn, []⟩
end Go.Proofs.YthihinlamlamhaaE
/- What path mode says of functions, printed by a program of this session; the kernel holds each. -/
namespace Go.Proofs.YthihinlamlamhaaE
open Go
set_option maxRecDepth 100000
set_option linter.unusedVariables false
theorem nf20x (m : Nat) (rs : List (List AV)) (Q : AV × List AObj → Prop) : inlW Try.prog H0 S5 6 (InO Try.prog H0 S5 6 6) 20 [.sl 0 0 m] [.arr 2 5 [.int .u8] rs] Q = (
chk ((0 : Nat) + m ≤ rs.length) (chk (((0 : Nat) + (List.take m (List.drop (0 : Nat) rs)).length) * (1 : Nat) ≤ (140737488355328 : Nat)) (chk ((0 : Nat) + (List.take m (List.drop (0 : Nat) rs)).length ≤ (9223372036854775807 : Nat)) (chk ((0 : Nat) + ((0 : Nat) + (List.take m (List.drop (0 : Nat) rs)).length) ≤
  ([] ++ List.take m (List.drop (0 : Nat) rs)).length) (Q ((AV.row false [K.int IntKind.u8]
    (List.take ((0 : Nat) + (List.take m (List.drop (0 : Nat) rs)).length)
      (List.drop (0 : Nat) ([] ++ List.take m (List.drop (0 : Nat) rs)))),
  [AObj.arr (2 : Nat) (5 : Nat) [K.int IntKind.u8] rs]))))))) := by kernel_rfl
theorem nf11c (i m n pi e g fi k at_ fr to_ z : Int) (nl nl2 a0 a1 a2 a3 a4 : Bool) (xs ps rs r0 r1 r2 r3 r4 : List (List AV)) (Q : Ex → List AV → List AObj → Prop) : lpBody Try.prog H0 Y1 6 6 11 1013 [.ptr 1 0, .ptr 2 0, .ptr 3 0, .fn (.func 26) [.ptr 4 0] [], .int .i64 m, .int .i64 i] [.arr 2 5 [.int .u8] xs, .box [.int .i64 n, .int .i64 pi, .int .i64 e, .int .i64 g, .int .i64 fi, .row nl [.int .i64] ps], .box [.nils, .nils, .nils, .nils, .int .i64 0, .int .i64 0, .int .i64 0, .int .i64 0, .nils, .nils, .int .i64 0], .box [.row a0 [.int .i64] r0, .row a1 [.int .i64] r1, .row a2 [.int .i64] r2, .nils, .int .i64 k, .int .i64 at_, .int .i64 fr, .int .i64 to_, .row a3 [.int .i64, .int .i64, .str] r3, .row a4 [.int .i64] r4, .int .i64 z], .box [.row nl2 [.int .u8] rs]] Q = (
br (decide (i < m))
 (((Hyp (n ≠ (0 : Int) ∧ ps.length ≤ (100 : Nat))) ∧
 (Q (Ex.nrm) ([AV.ptr (1 : Nat) (0 : Nat), AV.ptr (2 : Nat) (0 : Nat), AV.ptr (3 : Nat) (0 : Nat),
  AV.fn (Fn.func (26 : Nat)) [AV.ptr (5 : Nat) (0 : Nat)] [], AV.int IntKind.i64 m,
  AV.int IntKind.i64 (IntKind.i64.wrap (i + (1 : Int)))]) ([AObj.arr (2 : Nat) (5 : Nat) [K.int IntKind.u8] xs,
  AObj.box
    [AV.int IntKind.i64 n, AV.int IntKind.i64 pi, AV.int IntKind.i64 e, AV.int IntKind.i64 g, AV.int IntKind.i64 fi,
      AV.row nl [K.int IntKind.i64] ps],
  AObj.box
    [AV.nils, AV.nils, AV.nils, AV.nils, AV.int IntKind.i64 (0 : Int), AV.int IntKind.i64 (0 : Int),
      AV.int IntKind.i64 (0 : Int), AV.int IntKind.i64 (0 : Int), AV.nils, AV.nils, AV.int IntKind.i64 (0 : Int)],
  AObj.box
    [AV.row a0 [K.int IntKind.i64] r0, AV.row a1 [K.int IntKind.i64] r1, AV.row a2 [K.int IntKind.i64] r2,
      AV.sl (4 : Nat) (0 : Nat) (1 : Nat), AV.int IntKind.i64 k, AV.int IntKind.i64 at_, AV.int IntKind.i64 fr,
      AV.int IntKind.i64 to_, AV.row a3 [K.int IntKind.i64, K.int IntKind.i64, K.str] r3,
      AV.row a4 [K.int IntKind.i64] r4, AV.int IntKind.i64 z],
  AObj.arr (2 : Nat) (43 : Nat) [K.int IntKind.i64, K.int IntKind.i64, K.int IntKind.i64, K.int IntKind.i64]
    [[AV.int IntKind.i64 ((s_at rs (0 : Nat)).tmod (60 : Int)), AV.int IntKind.i64 ((s_at rs (1 : Nat)).tmod n),
        AV.int IntKind.i64 ((s_at rs (2 : Nat)).tmod ((↑ps.length : Int) + (1 : Int))),
        AV.int IntKind.i64 (s_at rs (3 : Nat))]],
  AObj.box [AV.row nl2 [K.int IntKind.u8] (s_drop (4 : Nat) rs)]]))))
 (Q (Ex.exit (0 : Nat)) ([AV.ptr (1 : Nat) (0 : Nat), AV.ptr (2 : Nat) (0 : Nat)]) ([AObj.arr (2 : Nat) (5 : Nat) [K.int IntKind.u8] xs,
  AObj.box
    [AV.nils, AV.nils, AV.nils, AV.nils, AV.int IntKind.i64 (0 : Int), AV.int IntKind.i64 (0 : Int),
      AV.int IntKind.i64 (0 : Int), AV.int IntKind.i64 (0 : Int), AV.nils, AV.nils, AV.int IntKind.i64 (0 : Int)],
  AObj.box
    [AV.row a0 [K.int IntKind.i64] r0, AV.row a1 [K.int IntKind.i64] r1, AV.row a2 [K.int IntKind.i64] r2, AV.nils,
      AV.int IntKind.i64 k, AV.int IntKind.i64 at_, AV.int IntKind.i64 fr, AV.int IntKind.i64 to_,
      AV.row a3 [K.int IntKind.i64, K.int IntKind.i64, K.str] r3, AV.row a4 [K.int IntKind.i64] r4,
      AV.int IntKind.i64 z]]))) := by kernel_rfl
theorem nf11d (i m n pi e g fi k at_ fr to_ z : Int) (j : Nat) (nl nl2 a0 a1 a2 a3 a4 : Bool) (xs ps rs r0 r1 r2 r3 r4 rows : List (List AV)) (Q : Ex → List AV → List AObj → Prop) : lpBody Try.prog H0 Y1 6 6 11 1013 [.ptr 1 0, .ptr 2 0, .ptr 3 0, .fn (.func 26) [.ptr 5 0] [], .int .i64 m, .int .i64 i] [.arr 2 5 [.int .u8] xs, .box [.int .i64 n, .int .i64 pi, .int .i64 e, .int .i64 g, .int .i64 fi, .row nl [.int .i64] ps], .box [.nils, .nils, .nils, .nils, .int .i64 0, .int .i64 0, .int .i64 0, .int .i64 0, .nils, .nils, .int .i64 0], .box [.row a0 [.int .i64] r0, .row a1 [.int .i64] r1, .row a2 [.int .i64] r2, .sl 4 0 j, .int .i64 k, .int .i64 at_, .int .i64 fr, .int .i64 to_, .row a3 [.int .i64, .int .i64, .str] r3, .row a4 [.int .i64] r4, .int .i64 z], .arr 2 43 [.int .i64, .int .i64, .int .i64, .int .i64] rows, .box [.row nl2 [.int .u8] rs]] Q = (
br (decide (i < m))
 (((Hyp (n ≠ (0 : Int) ∧ ps.length ≤ (100 : Nat))) ∧
 (chk (j = rows.length) (chk ((rows.length + (1 : Nat)) * (32 : Nat) ≤ (140737488355328 : Nat)) (chk (rows.length + (1 : Nat) ≤ (9223372036854775807 : Nat)) (Q (Ex.nrm) ([AV.ptr (1 : Nat) (0 : Nat), AV.ptr (2 : Nat) (0 : Nat), AV.ptr (3 : Nat) (0 : Nat),
  AV.fn (Fn.func (26 : Nat)) [AV.ptr (5 : Nat) (0 : Nat)] [], AV.int IntKind.i64 m,
  AV.int IntKind.i64 (IntKind.i64.wrap (i + (1 : Int)))]) ([AObj.arr (2 : Nat) (5 : Nat) [K.int IntKind.u8] xs,
  AObj.box
    [AV.int IntKind.i64 n, AV.int IntKind.i64 pi, AV.int IntKind.i64 e, AV.int IntKind.i64 g, AV.int IntKind.i64 fi,
      AV.row nl [K.int IntKind.i64] ps],
  AObj.box
    [AV.nils, AV.nils, AV.nils, AV.nils, AV.int IntKind.i64 (0 : Int), AV.int IntKind.i64 (0 : Int),
      AV.int IntKind.i64 (0 : Int), AV.int IntKind.i64 (0 : Int), AV.nils, AV.nils, AV.int IntKind.i64 (0 : Int)],
  AObj.box
    [AV.row a0 [K.int IntKind.i64] r0, AV.row a1 [K.int IntKind.i64] r1, AV.row a2 [K.int IntKind.i64] r2,
      AV.sl (4 : Nat) (0 : Nat) (rows.length + (1 : Nat)), AV.int IntKind.i64 k, AV.int IntKind.i64 at_,
      AV.int IntKind.i64 fr, AV.int IntKind.i64 to_, AV.row a3 [K.int IntKind.i64, K.int IntKind.i64, K.str] r3,
      AV.row a4 [K.int IntKind.i64] r4, AV.int IntKind.i64 z],
  AObj.arr (2 : Nat) (43 : Nat) [K.int IntKind.i64, K.int IntKind.i64, K.int IntKind.i64, K.int IntKind.i64]
    (rows ++
      [[AV.int IntKind.i64 ((s_at rs (0 : Nat)).tmod (60 : Int)), AV.int IntKind.i64 ((s_at rs (1 : Nat)).tmod n),
          AV.int IntKind.i64 ((s_at rs (2 : Nat)).tmod ((↑ps.length : Int) + (1 : Int))),
          AV.int IntKind.i64 (s_at rs (3 : Nat))]]),
  AObj.box [AV.row nl2 [K.int IntKind.u8] (s_drop (4 : Nat) rs)]])))))))
 (Q (Ex.exit (0 : Nat)) ([AV.ptr (1 : Nat) (0 : Nat), AV.ptr (2 : Nat) (0 : Nat)]) ([AObj.arr (2 : Nat) (5 : Nat) [K.int IntKind.u8] xs,
  AObj.box
    [AV.nils, AV.nils, AV.nils, AV.nils, AV.int IntKind.i64 (0 : Int), AV.int IntKind.i64 (0 : Int),
      AV.int IntKind.i64 (0 : Int), AV.int IntKind.i64 (0 : Int), AV.nils, AV.nils, AV.int IntKind.i64 (0 : Int)],
  AObj.box
    [AV.row a0 [K.int IntKind.i64] r0, AV.row a1 [K.int IntKind.i64] r1, AV.row a2 [K.int IntKind.i64] r2,
      AV.sl (3 : Nat) (0 : Nat) j, AV.int IntKind.i64 k, AV.int IntKind.i64 at_, AV.int IntKind.i64 fr,
      AV.int IntKind.i64 to_, AV.row a3 [K.int IntKind.i64, K.int IntKind.i64, K.str] r3,
      AV.row a4 [K.int IntKind.i64] r4, AV.int IntKind.i64 z],
  AObj.arr (2 : Nat) (43 : Nat) [K.int IntKind.i64, K.int IntKind.i64, K.int IntKind.i64, K.int IntKind.i64] rows]))) := by kernel_rfl
theorem nf11s (n pi e g fi : Int) (nl : Bool) (ps rs : List (List AV)) (m : Nat) (Q : AV × List AObj → Prop) : inlW Try.prog H0 Y1L 6 (InO Try.prog H0 Y1L 6 6) 11 [cf n pi e g fi nl ps, .sl 0 0 m] [.arr 2 5 [.int .u8] rs] Q = (
((Hyp (s_confOk n pi e g fi (List.map (fun r => (r.getD (0 : Nat) AV.gone).toI) ps) = true)) ∧
(((Hyp (m = rs.length ∧ rs.length ≤ (100000 : Nat))) ∧
(((Hyp ((0 : Int) ≤ n ∧ n ≤ (100 : Int))) ∧
(((Hyp ((0 : Int) ≤ (8 : Int) ∧ (8 : Int) ≤ (100 : Int))) ∧
(((Hyp ((0 : Int) ≤ (8 : Int) ∧ (8 : Int) ≤ (100 : Int))) ∧
(((Hyp ((6 : Int) ≤ n ∧ n ≤ (12 : Int) ∧ s_bytes (s_drop (8 : Nat) (s_drop (8 : Nat) (s_drop n.toNat rs))))) ∧
(((Hyp ((0 : Int) = (0 : Int) ∧
  (0 : Int) ≤
      (s_hd
            (s_drop (1 : Nat)
              (s_drop (s_fN (s_drop (8 : Nat) (s_drop (8 : Nat) (s_drop n.toNat rs))) + (4 : Nat))
                (s_drop (8 : Nat) (s_drop (8 : Nat) (s_drop n.toNat rs)))))).tmod
        (16 : Int) ∧
    (s_hd
              (s_drop (1 : Nat)
                (s_drop (s_fN (s_drop (8 : Nat) (s_drop (8 : Nat) (s_drop n.toNat rs))) + (4 : Nat))
                  (s_drop (8 : Nat) (s_drop (8 : Nat) (s_drop n.toNat rs)))))).tmod
          (16 : Int) ≤
        (100 : Int) ∧
      n ≠ (0 : Int) ∧ (0 : Int) ≤ (↑ps.length : Int) ∧ (↑ps.length : Int) ≤ (100 : Int))) ∧
((((((s_hd
        (s_drop (1 : Nat)
          (s_drop (s_fN (s_drop (8 : Nat) (s_drop (8 : Nat) (s_drop n.toNat rs))) + (4 : Nat))
            (s_drop (8 : Nat) (s_drop (8 : Nat) (s_drop n.toNat rs)))))).tmod
    (16 : Int) =
  (0 : Int)) →
Q ((AV.agg
    [AV.row false [K.int IntKind.i64] (List.map (fun n => [AV.int IntKind.i64 n]) (s_on rs n.toNat)),
      AV.row false [K.int IntKind.i64]
        [[AV.int IntKind.i64
              (IntKind.i64.wrap (IntKind.i64.wrap (s_at (s_drop n.toNat rs) (0 : Nat) - (128 : Int)) * (1 : Int)))],
          [AV.int IntKind.i64
              (IntKind.i64.wrap (IntKind.i64.wrap (s_at (s_drop n.toNat rs) (1 : Nat) - (128 : Int)) * (1 : Int)))],
          [AV.int IntKind.i64
              (IntKind.i64.wrap (IntKind.i64.wrap (s_at (s_drop n.toNat rs) (2 : Nat) - (128 : Int)) * (1 : Int)))],
          [AV.int IntKind.i64
              (IntKind.i64.wrap (IntKind.i64.wrap (s_at (s_drop n.toNat rs) (3 : Nat) - (128 : Int)) * (1 : Int)))],
          [AV.int IntKind.i64
              (IntKind.i64.wrap (IntKind.i64.wrap (s_at (s_drop n.toNat rs) (4 : Nat) - (128 : Int)) * (1 : Int)))],
          [AV.int IntKind.i64
              (IntKind.i64.wrap (IntKind.i64.wrap (s_at (s_drop n.toNat rs) (5 : Nat) - (128 : Int)) * (1 : Int)))],
          [AV.int IntKind.i64
              (IntKind.i64.wrap (IntKind.i64.wrap (s_at (s_drop n.toNat rs) (6 : Nat) - (128 : Int)) * (1 : Int)))],
          [AV.int IntKind.i64
              (IntKind.i64.wrap (IntKind.i64.wrap (s_at (s_drop n.toNat rs) (7 : Nat) - (128 : Int)) * (1 : Int)))]],
      AV.row false [K.int IntKind.i64]
        [[AV.int IntKind.i64
              (IntKind.i64.wrap
                (IntKind.i64.wrap (s_at (s_drop (8 : Nat) (s_drop n.toNat rs)) (0 : Nat) - (128 : Int)) * (1 : Int)))],
          [AV.int IntKind.i64
              (IntKind.i64.wrap
                (IntKind.i64.wrap (s_at (s_drop (8 : Nat) (s_drop n.toNat rs)) (1 : Nat) - (128 : Int)) * (1 : Int)))],
          [AV.int IntKind.i64
              (IntKind.i64.wrap
                (IntKind.i64.wrap (s_at (s_drop (8 : Nat) (s_drop n.toNat rs)) (2 : Nat) - (128 : Int)) * (1 : Int)))],
          [AV.int IntKind.i64
              (IntKind.i64.wrap
                (IntKind.i64.wrap (s_at (s_drop (8 : Nat) (s_drop n.toNat rs)) (3 : Nat) - (128 : Int)) * (1 : Int)))],
          [AV.int IntKind.i64
              (IntKind.i64.wrap
                (IntKind.i64.wrap (s_at (s_drop (8 : Nat) (s_drop n.toNat rs)) (4 : Nat) - (128 : Int)) * (1 : Int)))],
          [AV.int IntKind.i64
              (IntKind.i64.wrap
                (IntKind.i64.wrap (s_at (s_drop (8 : Nat) (s_drop n.toNat rs)) (5 : Nat) - (128 : Int)) * (1 : Int)))],
          [AV.int IntKind.i64
              (IntKind.i64.wrap
                (IntKind.i64.wrap (s_at (s_drop (8 : Nat) (s_drop n.toNat rs)) (6 : Nat) - (128 : Int)) * (1 : Int)))],
          [AV.int IntKind.i64
              (IntKind.i64.wrap
                (IntKind.i64.wrap (s_at (s_drop (8 : Nat) (s_drop n.toNat rs)) (7 : Nat) - (128 : Int)) * (1 : Int)))]],
      AV.row true [K.int IntKind.i64, K.int IntKind.i64, K.int IntKind.i64, K.int IntKind.i64] [],
      AV.int IntKind.i64 ((s_at (s_drop (8 : Nat) (s_drop (8 : Nat) (s_drop n.toNat rs))) (0 : Nat)).tmod (3 : Int)),
      AV.int IntKind.i64
        (s_fat n ((s_at (s_drop (8 : Nat) (s_drop (8 : Nat) (s_drop n.toNat rs))) (0 : Nat)).tmod (3 : Int))
          (s_at (s_drop (8 : Nat) (s_drop (8 : Nat) (s_drop n.toNat rs))) (1 : Nat))),
      AV.int IntKind.i64 ((s_at (s_drop (8 : Nat) (s_drop (8 : Nat) (s_drop n.toNat rs))) (2 : Nat)).tmod (60 : Int)),
      AV.int IntKind.i64
        ((s_at (s_drop (8 : Nat) (s_drop (8 : Nat) (s_drop n.toNat rs))) (2 : Nat)).tmod (60 : Int) +
          (s_at (s_drop (8 : Nat) (s_drop (8 : Nat) (s_drop n.toNat rs))) (3 : Nat)).tmod (60 : Int)),
      AV.row false [K.int IntKind.i64, K.int IntKind.i64, K.str]
        (s_acts (s_drop (5 : Nat) (s_drop (8 : Nat) (s_drop (8 : Nat) (s_drop n.toNat rs))))
          (s_fA (s_drop (8 : Nat) (s_drop (8 : Nat) (s_drop n.toNat rs))))),
      AV.row false [K.int IntKind.i64]
        [[AV.int IntKind.i64
              (IntKind.i64.wrap
                (IntKind.i64.wrap
                    (s_at
                        (s_drop (s_fN (s_drop (8 : Nat) (s_drop (8 : Nat) (s_drop n.toNat rs))))
                          (s_drop (8 : Nat) (s_drop (8 : Nat) (s_drop n.toNat rs))))
                        (0 : Nat) -
                      (128 : Int)) *
                  (8 : Int)))],
          [AV.int IntKind.i64
              (IntKind.i64.wrap
                (IntKind.i64.wrap
                    (s_at
                        (s_drop (s_fN (s_drop (8 : Nat) (s_drop (8 : Nat) (s_drop n.toNat rs))))
                          (s_drop (8 : Nat) (s_drop (8 : Nat) (s_drop n.toNat rs))))
                        (1 : Nat) -
                      (128 : Int)) *
                  (8 : Int)))],
          [AV.int IntKind.i64
              (IntKind.i64.wrap
                (IntKind.i64.wrap
                    (s_at
                        (s_drop (s_fN (s_drop (8 : Nat) (s_drop (8 : Nat) (s_drop n.toNat rs))))
                          (s_drop (8 : Nat) (s_drop (8 : Nat) (s_drop n.toNat rs))))
                        (2 : Nat) -
                      (128 : Int)) *
                  (8 : Int)))],
          [AV.int IntKind.i64
              (IntKind.i64.wrap
                (IntKind.i64.wrap
                    (s_at
                        (s_drop (s_fN (s_drop (8 : Nat) (s_drop (8 : Nat) (s_drop n.toNat rs))))
                          (s_drop (8 : Nat) (s_drop (8 : Nat) (s_drop n.toNat rs))))
                        (3 : Nat) -
                      (128 : Int)) *
                  (8 : Int)))]],
      AV.int IntKind.i64
        (IntKind.i64.wrap
          ((20 : Int) +
            (s_hd
                  (s_drop (s_fN (s_drop (8 : Nat) (s_drop (8 : Nat) (s_drop n.toNat rs))) + (4 : Nat))
                    (s_drop (8 : Nat) (s_drop (8 : Nat) (s_drop n.toNat rs))))).tmod
              (40 : Int)))],
  [AObj.arr (2 : Nat) (5 : Nat) [K.int IntKind.u8] rs])))) ∧
((∀ (rows'108 : List (List AV)),
((rows'108 =
  s_calls n (↑ps.length : Int)
    (s_drop (1 : Nat)
      (s_drop (1 : Nat)
        (s_drop (s_fN (s_drop (8 : Nat) (s_drop (8 : Nat) (s_drop n.toNat rs))) + (4 : Nat))
          (s_drop (8 : Nat) (s_drop (8 : Nat) (s_drop n.toNat rs))))))
    ((s_hd
            (s_drop (1 : Nat)
              (s_drop (s_fN (s_drop (8 : Nat) (s_drop (8 : Nat) (s_drop n.toNat rs))) + (4 : Nat))
                (s_drop (8 : Nat) (s_drop (8 : Nat) (s_drop n.toNat rs)))))).tmod
        (16 : Int)).toNat) →
chk ((0 : Nat) +
    ((s_hd
            (s_drop (1 : Nat)
              (s_drop (s_fN (s_drop (8 : Nat) (s_drop (8 : Nat) (s_drop n.toNat rs))) + (4 : Nat))
                (s_drop (8 : Nat) (s_drop (8 : Nat) (s_drop n.toNat rs)))))).tmod
        (16 : Int)).toNat ≤
  rows'108.length) (((Hyp (false = false ∧
  (List.take
        ((s_hd
                (s_drop (1 : Nat)
                  (s_drop (s_fN (s_drop (8 : Nat) (s_drop (8 : Nat) (s_drop n.toNat rs))) + (4 : Nat))
                    (s_drop (8 : Nat) (s_drop (8 : Nat) (s_drop n.toNat rs)))))).tmod
            (16 : Int)).toNat
        (List.drop (0 : Nat) rows'108)).length ≤
    (100000 : Nat))) ∧
(Q ((AV.agg
    [AV.row false [K.int IntKind.i64] (List.map (fun n => [AV.int IntKind.i64 n]) (s_on rs n.toNat)),
      AV.row false [K.int IntKind.i64]
        [[AV.int IntKind.i64
              (IntKind.i64.wrap (IntKind.i64.wrap (s_at (s_drop n.toNat rs) (0 : Nat) - (128 : Int)) * (1 : Int)))],
          [AV.int IntKind.i64
              (IntKind.i64.wrap (IntKind.i64.wrap (s_at (s_drop n.toNat rs) (1 : Nat) - (128 : Int)) * (1 : Int)))],
          [AV.int IntKind.i64
              (IntKind.i64.wrap (IntKind.i64.wrap (s_at (s_drop n.toNat rs) (2 : Nat) - (128 : Int)) * (1 : Int)))],
          [AV.int IntKind.i64
              (IntKind.i64.wrap (IntKind.i64.wrap (s_at (s_drop n.toNat rs) (3 : Nat) - (128 : Int)) * (1 : Int)))],
          [AV.int IntKind.i64
              (IntKind.i64.wrap (IntKind.i64.wrap (s_at (s_drop n.toNat rs) (4 : Nat) - (128 : Int)) * (1 : Int)))],
          [AV.int IntKind.i64
              (IntKind.i64.wrap (IntKind.i64.wrap (s_at (s_drop n.toNat rs) (5 : Nat) - (128 : Int)) * (1 : Int)))],
          [AV.int IntKind.i64
              (IntKind.i64.wrap (IntKind.i64.wrap (s_at (s_drop n.toNat rs) (6 : Nat) - (128 : Int)) * (1 : Int)))],
          [AV.int IntKind.i64
              (IntKind.i64.wrap (IntKind.i64.wrap (s_at (s_drop n.toNat rs) (7 : Nat) - (128 : Int)) * (1 : Int)))]],
      AV.row false [K.int IntKind.i64]
        [[AV.int IntKind.i64
              (IntKind.i64.wrap
                (IntKind.i64.wrap (s_at (s_drop (8 : Nat) (s_drop n.toNat rs)) (0 : Nat) - (128 : Int)) * (1 : Int)))],
          [AV.int IntKind.i64
              (IntKind.i64.wrap
                (IntKind.i64.wrap (s_at (s_drop (8 : Nat) (s_drop n.toNat rs)) (1 : Nat) - (128 : Int)) * (1 : Int)))],
          [AV.int IntKind.i64
              (IntKind.i64.wrap
                (IntKind.i64.wrap (s_at (s_drop (8 : Nat) (s_drop n.toNat rs)) (2 : Nat) - (128 : Int)) * (1 : Int)))],
          [AV.int IntKind.i64
              (IntKind.i64.wrap
                (IntKind.i64.wrap (s_at (s_drop (8 : Nat) (s_drop n.toNat rs)) (3 : Nat) - (128 : Int)) * (1 : Int)))],
          [AV.int IntKind.i64
              (IntKind.i64.wrap
                (IntKind.i64.wrap (s_at (s_drop (8 : Nat) (s_drop n.toNat rs)) (4 : Nat) - (128 : Int)) * (1 : Int)))],
          [AV.int IntKind.i64
              (IntKind.i64.wrap
                (IntKind.i64.wrap (s_at (s_drop (8 : Nat) (s_drop n.toNat rs)) (5 : Nat) - (128 : Int)) * (1 : Int)))],
          [AV.int IntKind.i64
              (IntKind.i64.wrap
                (IntKind.i64.wrap (s_at (s_drop (8 : Nat) (s_drop n.toNat rs)) (6 : Nat) - (128 : Int)) * (1 : Int)))],
          [AV.int IntKind.i64
              (IntKind.i64.wrap
                (IntKind.i64.wrap (s_at (s_drop (8 : Nat) (s_drop n.toNat rs)) (7 : Nat) - (128 : Int)) * (1 : Int)))]],
      AV.row false [K.int IntKind.i64, K.int IntKind.i64, K.int IntKind.i64, K.int IntKind.i64]
        (List.take
          ((s_hd
                  (s_drop (1 : Nat)
                    (s_drop (s_fN (s_drop (8 : Nat) (s_drop (8 : Nat) (s_drop n.toNat rs))) + (4 : Nat))
                      (s_drop (8 : Nat) (s_drop (8 : Nat) (s_drop n.toNat rs)))))).tmod
              (16 : Int)).toNat
          (List.drop (0 : Nat) rows'108)),
      AV.int IntKind.i64 ((s_at (s_drop (8 : Nat) (s_drop (8 : Nat) (s_drop n.toNat rs))) (0 : Nat)).tmod (3 : Int)),
      AV.int IntKind.i64
        (s_fat n ((s_at (s_drop (8 : Nat) (s_drop (8 : Nat) (s_drop n.toNat rs))) (0 : Nat)).tmod (3 : Int))
          (s_at (s_drop (8 : Nat) (s_drop (8 : Nat) (s_drop n.toNat rs))) (1 : Nat))),
      AV.int IntKind.i64 ((s_at (s_drop (8 : Nat) (s_drop (8 : Nat) (s_drop n.toNat rs))) (2 : Nat)).tmod (60 : Int)),
      AV.int IntKind.i64
        ((s_at (s_drop (8 : Nat) (s_drop (8 : Nat) (s_drop n.toNat rs))) (2 : Nat)).tmod (60 : Int) +
          (s_at (s_drop (8 : Nat) (s_drop (8 : Nat) (s_drop n.toNat rs))) (3 : Nat)).tmod (60 : Int)),
      AV.row false [K.int IntKind.i64, K.int IntKind.i64, K.str]
        (s_acts (s_drop (5 : Nat) (s_drop (8 : Nat) (s_drop (8 : Nat) (s_drop n.toNat rs))))
          (s_fA (s_drop (8 : Nat) (s_drop (8 : Nat) (s_drop n.toNat rs))))),
      AV.row false [K.int IntKind.i64]
        [[AV.int IntKind.i64
              (IntKind.i64.wrap
                (IntKind.i64.wrap
                    (s_at
                        (s_drop (s_fN (s_drop (8 : Nat) (s_drop (8 : Nat) (s_drop n.toNat rs))))
                          (s_drop (8 : Nat) (s_drop (8 : Nat) (s_drop n.toNat rs))))
                        (0 : Nat) -
                      (128 : Int)) *
                  (8 : Int)))],
          [AV.int IntKind.i64
              (IntKind.i64.wrap
                (IntKind.i64.wrap
                    (s_at
                        (s_drop (s_fN (s_drop (8 : Nat) (s_drop (8 : Nat) (s_drop n.toNat rs))))
                          (s_drop (8 : Nat) (s_drop (8 : Nat) (s_drop n.toNat rs))))
                        (1 : Nat) -
                      (128 : Int)) *
                  (8 : Int)))],
          [AV.int IntKind.i64
              (IntKind.i64.wrap
                (IntKind.i64.wrap
                    (s_at
                        (s_drop (s_fN (s_drop (8 : Nat) (s_drop (8 : Nat) (s_drop n.toNat rs))))
                          (s_drop (8 : Nat) (s_drop (8 : Nat) (s_drop n.toNat rs))))
                        (2 : Nat) -
                      (128 : Int)) *
                  (8 : Int)))],
          [AV.int IntKind.i64
              (IntKind.i64.wrap
                (IntKind.i64.wrap
                    (s_at
                        (s_drop (s_fN (s_drop (8 : Nat) (s_drop (8 : Nat) (s_drop n.toNat rs))))
                          (s_drop (8 : Nat) (s_drop (8 : Nat) (s_drop n.toNat rs))))
                        (3 : Nat) -
                      (128 : Int)) *
                  (8 : Int)))]],
      AV.int IntKind.i64
        (IntKind.i64.wrap
          ((20 : Int) +
            (s_hd
                  (s_drop (s_fN (s_drop (8 : Nat) (s_drop (8 : Nat) (s_drop n.toNat rs))) + (4 : Nat))
                    (s_drop (8 : Nat) (s_drop (8 : Nat) (s_drop n.toNat rs))))).tmod
              (40 : Int)))],
  [AObj.arr (2 : Nat) (5 : Nat) [K.int IntKind.u8] rs])))))))))))))))))))))))) := by kernel_rfl
end Go.Proofs.YthihinlamlamhaaE
/- script.Of of bytes that are written to behind it: the specs hold. -/
namespace Go.Proofs.YthihinlamlamhaaE
open Go
set_option linter.unusedVariables false
set_option linter.unusedSimpArgs false
set_option maxRecDepth 100000

theorem ok20x : OkS Try.prog H0 20 sCloneX := by
  intro args h Q hq
  unfold sCloneX at hq
  split at hq
  · rename_i m rs
    obtain ⟨⟨h0, h1⟩, hQ⟩ := hyp_iff.1 hq
    subst h0
    refine in_ok (S := S5) (U := 6) (k := 6) okS5 (to (nf20x ..) ?_)
    have ht : List.take (0 + rs.length) (List.drop 0 rs) = rs := by rw [Nat.zero_add, List.drop_zero, List.take_length]
    simp only [chk_iff, List.nil_append, Nat.zero_add, List.drop_zero, List.take_length]
    refine ⟨by omega, by omega, by omega, by omega, hQ⟩
  · exact hq.elim
theorem okY1 : OkSp Try.prog H0 Y1 := ⟨⟨ok20x, okS6.fn⟩, trivial⟩
theorem okLCallsA : OkLp Try.prog H0 11 1013 lCallsA := by
  refine okLp_of (U := 6) (k := 6) okY1 lCallsA (fun vals _ => match vals with | [_, _, _, _, .int _ m, .int _ i] => (m - i).toNat | _ => 0) fun vals h Q hl => ?_
  unfold lCallsA at hl
  split at hl
  case h_2 => exact hl.elim
  rename_i F m i xs n pi e g fi nl ps a0 r0 a1 r1 a2 r2 C k at_ fr to_ a3 r3 a4 r4 z rest
  unfold lClA at hl
  split at hl
  · rename_i nl2 rs
    obtain ⟨⟨h0, h1, h2, h3, h4, h5⟩, hq1, hq2⟩ := hyp_iff.1 hl
    subst h0
    refine to (nf11c ..) (br_intro (fun hc => ⟨.mk ⟨h3, by omega⟩, ?_⟩) fun hc => ?_)
    · have hc := of_decide_eq_true hc
      rw [show IntKind.i64.wrap ((0 : Int) + 1) = 1 by decide]
      refine ⟨by show (m - 1).toNat < (m - 0).toNat; omega, ⟨rfl, by omega, h2, h3, h4, h5, rfl⟩, fun rows' hr => hq2 rows' ?_⟩
      rw [hr, show m.toNat = (m - 1).toNat + 1 by omega]
      rfl
    · have hc := of_decide_eq_false hc
      exact hq1 (by omega)
  · rename_i j rows nl2 rs
    obtain ⟨⟨h0, h1, h2, h3, h4, h5, h6⟩, hq2⟩ := hl
    subst h0
    refine to (nf11d ..) (br_intro (fun hc => ⟨.mk ⟨h3, by omega⟩, ?_⟩) fun hc => ?_)
    · have hc := of_decide_eq_true hc
      rw [chk_iff, chk_iff, chk_iff]
      refine ⟨h6.symm, by omega, by omega, ?_⟩
      rw [wr (x := (j : Int) + 1) (by omega) (by omega), h6]
      refine ⟨by show (m - ((j : Int) + 1)).toNat < (m - (j : Int)).toNat; omega, ⟨by omega, by omega, h2, h3, h4, h5, by rw [List.length_append, h6]; rfl⟩, fun rows' hr => hq2 rows' ?_⟩
      rw [hr, show (m - (j : Int)).toNat = (m - ((j : Int) + 1)).toNat + 1 by omega, List.append_assoc]
      rfl
    · have hc := of_decide_eq_false hc
      have e : m = j := by omega
      subst e
      have := hq2 rows (by rw [Int.sub_self]; simp [s_calls])
      rwa [show ((j : Int)).toNat = j by omega] at this
  · exact hl.elim
theorem okY1L : OkSp Try.prog H0 Y1L := ⟨okY1.fn, okLCallsA, trivial⟩
theorem okB11 : OkS Try.prog H0 11 sOfB := by
  intro args h Q hq
  unfold sOfB at hq
  split at hq
  · exact ok11 _ _ Q ⟨hq.1, hq.2 _ rfl⟩
  · rename_i n pi e g fi nl ps m' rs
    obtain ⟨⟨hc, hb, hnl, hrl⟩, hQ⟩ := hyp_iff.1 hq
    have hQ := hQ rs rfl
    subst hnl
    clear hq
    obtain ⟨hn1, hn2, hpl⟩ := confOk_n hc
    have hpl : ps.length ≤ 3 := by simpa [ints] using hpl
    refine in_ok (S := Y1L) (U := 6) (k := 6) okY1L (to (nf11s ..) ?_)
    unfold s_rowi s_cN s_rN at hQ
    simp only [sg_lit, sg_lit8] at hQ
    simp only [dd, hd0, at_drop]
    generalize hm : (s_at rs (n.toNat + 8 + 8 + (s_fN (s_drop (n.toNat + 8 + 8) rs) + 4) + 1 + 0)).tmod 16 = m at *
    have hm2 : 0 ≤ m ∧ m < 16 := by rw [← hm]; exact at_mod hb _ (by omega)
    have hr := at_mod hb (n.toNat + 8 + 8 + (s_fN (s_drop (n.toNat + 8 + 8) rs) + 4) + 0) (show (0 : Int) < 40 by omega)
    rw [wr (x := 20 + (s_at rs (n.toNat + 8 + 8 + (s_fN (s_drop (n.toNat + 8 + 8) rs) + 4) + 0)).tmod 40) (by omega) (by omega)]
    refine ⟨.mk hc, .mk ⟨trivial, hrl⟩, .mk (by omega), .mk (by omega), .mk (by omega), .mk ⟨hn1, hn2, bytes_drop _ hb⟩, .mk ⟨trivial, by omega, by omega, by omega, by omega, by omega⟩, fun h0 => ?_, fun rows' hr' => ?_⟩
    · subst h0
      exact hQ true
    · have hl := calls_len n (ps.length : Int) m.toNat (s_drop (n.toNat + 8 + 8 + (s_fN (s_drop (n.toNat + 8 + 8) rs) + 4) + 1 + 1) rs)
      subst hr'
      rw [chk_iff, List.drop_zero, List.take_of_length_le (by omega)]
      exact ⟨by omega, .mk ⟨trivial, by omega⟩, hQ false⟩
  · exact hq.elim
theorem okY2 : OkSp Try.prog H0 Y2 := ⟨⟨okB11, okT8.fn⟩, trivial⟩
end Go.Proofs.YthihinlamlamhaaE
/- ScriptOwn: its loops' specs. -/
namespace Go.Proofs.YthihinlamlamhaaE
open Go
set_option linter.unusedVariables false

def lOwnA : LW := fun vals h Q => match vals, h with
  | [.row nl2 [.int .u8] rs, .int .u8 b, .ptr 0 0, .sl 1 0 m, .ptr 2 0, .int .i64 i], [.box [.int .i64 n, .int .i64 pi, .int .i64 e, .int .i64 g, .int .i64 fi, .row nl [.int .i64] ps], .arr 2 5 [.int .u8] rows, .box [.row x0 [.int .i64] xr0, .row x1 [.int .i64] xr1, .row x2 [.int .i64] xr2, .row x3 [.int .i64, .int .i64, .int .i64, .int .i64] xr3, .int .i64 xk, .int .i64 xa, .int .i64 xf, .int .i64 xt, .row x4 [.int .i64, .int .i64, .str] xr4, .row x5 [.int .i64] xr5, .int .i64 xz]] =>
    Hyp (0 ≤ i ∧ i ≤ m ∧ m ≤ 1000 ∧ m = rs.length ∧ rows.length = rs.length ∧ rows.drop i.toNat = rs.drop i.toNat) ∧ Q (.exit 0) [.row nl2 [.int .u8] rs, .ptr 0 0, .ptr 1 0] [.box [.int .i64 n, .int .i64 pi, .int .i64 e, .int .i64 g, .int .i64 fi, .row nl [.int .i64] ps], .box [.row x0 [.int .i64] xr0, .row x1 [.int .i64] xr1, .row x2 [.int .i64] xr2, .row x3 [.int .i64, .int .i64, .int .i64, .int .i64] xr3, .int .i64 xk, .int .i64 xa, .int .i64 xf, .int .i64 xt, .row x4 [.int .i64, .int .i64, .str] xr4, .row x5 [.int .i64] xr5, .int .i64 xz]]
  | _, _ => False
def lOwnB : LW := fun vals h Q => match vals, h with
  | [.ptr 0 0, .ptr 1 0, .ptr 2 0, .int .i64 i], [.box [.int .i64 n, .int .i64 pi, .int .i64 e, .int .i64 g, .int .i64 fi, .row nl [.int .i64] ps], .box X, .box Y] => (match X with
    | [.row x0 [.int .i64] xr0, .row x1 [.int .i64] xr1, .row x2 [.int .i64] xr2, .row x3 [.int .i64, .int .i64, .int .i64, .int .i64] xr3, .int .i64 xk, .int .i64 xa, .int .i64 xf, .int .i64 xt, .row x4 [.int .i64, .int .i64, .str] xr4, .row x5 [.int .i64] xr5, .int .i64 xz] => (match Y with
      | [.row y0 [.int .i64] yr0, .row y1 [.int .i64] yr1, .row y2 [.int .i64] yr2, .row y3 [.int .i64, .int .i64, .int .i64, .int .i64] yr3, .int .i64 yk, .int .i64 ya, .int .i64 yf, .int .i64 yt, .row y4 [.int .i64, .int .i64, .str] yr4, .row y5 [.int .i64] yr5, .int .i64 yz] => Hyp (0 ≤ i ∧ n ≤ 1000 ∧ n ≤ xr0.length ∧ yr0 = xr0) ∧ Q (.exit 2) [.ptr 0 0, .ptr 1 0, .ptr 2 0] [.box [.int .i64 n, .int .i64 pi, .int .i64 e, .int .i64 g, .int .i64 fi, .row nl [.int .i64] ps], .box [.row x0 [.int .i64] xr0, .row x1 [.int .i64] xr1, .row x2 [.int .i64] xr2, .row x3 [.int .i64, .int .i64, .int .i64, .int .i64] xr3, .int .i64 xk, .int .i64 xa, .int .i64 xf, .int .i64 xt, .row x4 [.int .i64, .int .i64, .str] xr4, .row x5 [.int .i64] xr5, .int .i64 xz], .box [.row y0 [.int .i64] yr0, .row y1 [.int .i64] yr1, .row y2 [.int .i64] yr2, .row y3 [.int .i64, .int .i64, .int .i64, .int .i64] yr3, .int .i64 yk, .int .i64 ya, .int .i64 yf, .int .i64 yt, .row y4 [.int .i64, .int .i64, .str] yr4, .row y5 [.int .i64] yr5, .int .i64 yz]]
      | _ => False)
    | _ => False)
  | _, _ => False
def lOwnC : LW := fun vals h Q => match vals, h with
  | [.ptr 0 0, .ptr 1 0, .ptr 2 0, .int .i64 i], [.box [.int .i64 n, .int .i64 pi, .int .i64 e, .int .i64 g, .int .i64 fi, .row nl [.int .i64] ps], .box X, .box Y] => (match X with
    | [.row x0 [.int .i64] xr0, .row x1 [.int .i64] xr1, .row x2 [.int .i64] xr2, .row x3 [.int .i64, .int .i64, .int .i64, .int .i64] xr3, .int .i64 xk, .int .i64 xa, .int .i64 xf, .int .i64 xt, .row x4 [.int .i64, .int .i64, .str] xr4, .row x5 [.int .i64] xr5, .int .i64 xz] => (match Y with
      | [.row y0 [.int .i64] yr0, .row y1 [.int .i64] yr1, .row y2 [.int .i64] yr2, .row y3 [.int .i64, .int .i64, .int .i64, .int .i64] yr3, .int .i64 yk, .int .i64 ya, .int .i64 yf, .int .i64 yt, .row y4 [.int .i64, .int .i64, .str] yr4, .row y5 [.int .i64] yr5, .int .i64 yz] => Hyp (0 ≤ i ∧ xr4.length ≤ 1000 ∧ yr4 = xr4) ∧ Q (.exit 4) [.ptr 0 0, .ptr 1 0] [.box [.int .i64 n, .int .i64 pi, .int .i64 e, .int .i64 g, .int .i64 fi, .row nl [.int .i64] ps], .box [.row x0 [.int .i64] xr0, .row x1 [.int .i64] xr1, .row x2 [.int .i64] xr2, .row x3 [.int .i64, .int .i64, .int .i64, .int .i64] xr3, .int .i64 xk, .int .i64 xa, .int .i64 xf, .int .i64 xt, .row x4 [.int .i64, .int .i64, .str] xr4, .row x5 [.int .i64] xr5, .int .i64 xz]]
      | _ => False)
    | _ => False)
  | _, _ => False
def Y3 : Sp := ⟨Y2.fn, [(8, 9, lOwnA), (8, 18, lOwnB), (8, 23, lOwnC)]⟩
end Go.Proofs.YthihinlamlamhaaE
/- What path mode says of functions, printed by a program of this session; the kernel holds each. -/
namespace Go.Proofs.YthihinlamlamhaaE
open Go
set_option maxRecDepth 100000
set_option linter.unusedVariables false
theorem nfOwnA (n pi e g fi : Int) (nl : Bool) (ps : List (List AV)) (nl2 : Bool) (rs rows : List (List AV)) (b i : Int) (m : Nat) (x0 x1 x2 x3 x4 x5 : Bool) (xr0 xr1 xr2 xr3 xr4 xr5 : List (List AV)) (xk xa xf xt xz : Int) (Q : Ex → List AV → List AObj → Prop) : lpBody Try.prog H0 Y2 6 6 8 9 [.row nl2 [.int .u8] rs, .int .u8 b, .ptr 0 0, .sl 1 0 m, .ptr 2 0, .int .i64 i] [.box [.int .i64 n, .int .i64 pi, .int .i64 e, .int .i64 g, .int .i64 fi, .row nl [.int .i64] ps], .arr 2 5 [.int .u8] rows, .box [.row x0 [.int .i64] xr0, .row x1 [.int .i64] xr1, .row x2 [.int .i64] xr2, .row x3 [.int .i64, .int .i64, .int .i64, .int .i64] xr3, .int .i64 xk, .int .i64 xa, .int .i64 xf, .int .i64 xt, .row x4 [.int .i64, .int .i64, .str] xr4, .row x5 [.int .i64] xr5, .int .i64 xz]] Q = (
br (decide (i < (↑m : Int)))
 (chk ((0 : Int) ≤ i ∧ i < (↑m : Int)) (chk ((0 : Nat) + i.toNat < rows.length) (chk ((0 : Int) ≤ i ∧ i < (↑rs.length : Int)) (br (((rows.getD ((0 : Nat) + i.toNat) []).getD (0 : Nat) AV.gone).toI != ((rs.getD i.toNat []).getD (0 : Nat) AV.gone).toI)
  (Q (Ex.ret) ([AV.bool false]) ([]))
  (chk ((0 : Int) ≤ i ∧ i < (↑m : Int)) (chk ((0 : Nat) + i.toNat < rows.length) (chk ((0 : Int) ≤ i ∧ i < (↑m : Int)) (chk ((0 : Nat) + i.toNat < rows.length) (Q (Ex.nrm) ([AV.row nl2 [K.int IntKind.u8] rs, AV.int IntKind.u8 b, AV.ptr (0 : Nat) (0 : Nat), AV.sl (1 : Nat) (0 : Nat) m,
  AV.ptr (2 : Nat) (0 : Nat), AV.int IntKind.i64 (IntKind.i64.wrap (i + (1 : Int)))]) ([AObj.box
    [AV.int IntKind.i64 n, AV.int IntKind.i64 pi, AV.int IntKind.i64 e, AV.int IntKind.i64 g, AV.int IntKind.i64 fi,
      AV.row nl [K.int IntKind.i64] ps],
  AObj.arr (2 : Nat) (5 : Nat) [K.int IntKind.u8]
    (rows.set ((0 : Nat) + i.toNat)
      (AV.int IntKind.u8 (IntKind.u8.wrap (((rows.getD ((0 : Nat) + i.toNat) []).getD (0 : Nat) AV.gone).toI + b)) ::
        List.drop ((0 : Nat) + (1 : Nat)) (rows.getD ((0 : Nat) + i.toNat) []))),
  AObj.box
    [AV.row x0 [K.int IntKind.i64] xr0, AV.row x1 [K.int IntKind.i64] xr1, AV.row x2 [K.int IntKind.i64] xr2,
      AV.row x3 [K.int IntKind.i64, K.int IntKind.i64, K.int IntKind.i64, K.int IntKind.i64] xr3, AV.int IntKind.i64 xk,
      AV.int IntKind.i64 xa, AV.int IntKind.i64 xf, AV.int IntKind.i64 xt,
      AV.row x4 [K.int IntKind.i64, K.int IntKind.i64, K.str] xr4, AV.row x5 [K.int IntKind.i64] xr5,
      AV.int IntKind.i64 xz]]))))))))))
 (Q (Ex.exit (0 : Nat)) ([AV.row nl2 [K.int IntKind.u8] rs, AV.ptr (0 : Nat) (0 : Nat), AV.ptr (1 : Nat) (0 : Nat)]) ([AObj.box
    [AV.int IntKind.i64 n, AV.int IntKind.i64 pi, AV.int IntKind.i64 e, AV.int IntKind.i64 g, AV.int IntKind.i64 fi,
      AV.row nl [K.int IntKind.i64] ps],
  AObj.box
    [AV.row x0 [K.int IntKind.i64] xr0, AV.row x1 [K.int IntKind.i64] xr1, AV.row x2 [K.int IntKind.i64] xr2,
      AV.row x3 [K.int IntKind.i64, K.int IntKind.i64, K.int IntKind.i64, K.int IntKind.i64] xr3, AV.int IntKind.i64 xk,
      AV.int IntKind.i64 xa, AV.int IntKind.i64 xf, AV.int IntKind.i64 xt,
      AV.row x4 [K.int IntKind.i64, K.int IntKind.i64, K.str] xr4, AV.row x5 [K.int IntKind.i64] xr5,
      AV.int IntKind.i64 xz]]))) := by kernel_rfl
theorem nfOwnB (n pi e g fi : Int) (nl : Bool) (ps : List (List AV)) (i : Int) (x0 x1 x2 x3 x4 x5 : Bool) (xr0 xr1 xr2 xr3 xr4 xr5 : List (List AV)) (xk xa xf xt xz : Int) (y0 y1 y2 y3 y4 y5 : Bool) (yr0 yr1 yr2 yr3 yr4 yr5 : List (List AV)) (yk ya yf yt yz : Int) (Q : Ex → List AV → List AObj → Prop) : lpBody Try.prog H0 Y2 6 6 8 18 [.ptr 0 0, .ptr 1 0, .ptr 2 0, .int .i64 i] [.box [.int .i64 n, .int .i64 pi, .int .i64 e, .int .i64 g, .int .i64 fi, .row nl [.int .i64] ps], .box [.row x0 [.int .i64] xr0, .row x1 [.int .i64] xr1, .row x2 [.int .i64] xr2, .row x3 [.int .i64, .int .i64, .int .i64, .int .i64] xr3, .int .i64 xk, .int .i64 xa, .int .i64 xf, .int .i64 xt, .row x4 [.int .i64, .int .i64, .str] xr4, .row x5 [.int .i64] xr5, .int .i64 xz], .box [.row y0 [.int .i64] yr0, .row y1 [.int .i64] yr1, .row y2 [.int .i64] yr2, .row y3 [.int .i64, .int .i64, .int .i64, .int .i64] yr3, .int .i64 yk, .int .i64 ya, .int .i64 yf, .int .i64 yt, .row y4 [.int .i64, .int .i64, .str] yr4, .row y5 [.int .i64] yr5, .int .i64 yz]] Q = (
br (decide (i < n))
 (chk ((0 : Int) ≤ i ∧ i < (↑xr0.length : Int)) (chk ((0 : Int) ≤ i ∧ i < (↑yr0.length : Int)) (br (((xr0.getD i.toNat []).getD (0 : Nat) AV.gone).toI != ((yr0.getD i.toNat []).getD (0 : Nat) AV.gone).toI)
  (Q (Ex.ret) ([AV.bool false]) ([]))
  (Q (Ex.nrm) ([AV.ptr (0 : Nat) (0 : Nat), AV.ptr (1 : Nat) (0 : Nat), AV.ptr (2 : Nat) (0 : Nat),
  AV.int IntKind.i64 (IntKind.i64.wrap (i + (1 : Int)))]) ([AObj.box
    [AV.int IntKind.i64 n, AV.int IntKind.i64 pi, AV.int IntKind.i64 e, AV.int IntKind.i64 g, AV.int IntKind.i64 fi,
      AV.row nl [K.int IntKind.i64] ps],
  AObj.box
    [AV.row x0 [K.int IntKind.i64] xr0, AV.row x1 [K.int IntKind.i64] xr1, AV.row x2 [K.int IntKind.i64] xr2,
      AV.row x3 [K.int IntKind.i64, K.int IntKind.i64, K.int IntKind.i64, K.int IntKind.i64] xr3, AV.int IntKind.i64 xk,
      AV.int IntKind.i64 xa, AV.int IntKind.i64 xf, AV.int IntKind.i64 xt,
      AV.row x4 [K.int IntKind.i64, K.int IntKind.i64, K.str] xr4, AV.row x5 [K.int IntKind.i64] xr5,
      AV.int IntKind.i64 xz],
  AObj.box
    [AV.row y0 [K.int IntKind.i64] yr0, AV.row y1 [K.int IntKind.i64] yr1, AV.row y2 [K.int IntKind.i64] yr2,
      AV.row y3 [K.int IntKind.i64, K.int IntKind.i64, K.int IntKind.i64, K.int IntKind.i64] yr3, AV.int IntKind.i64 yk,
      AV.int IntKind.i64 ya, AV.int IntKind.i64 yf, AV.int IntKind.i64 yt,
      AV.row y4 [K.int IntKind.i64, K.int IntKind.i64, K.str] yr4, AV.row y5 [K.int IntKind.i64] yr5,
      AV.int IntKind.i64 yz]])))))
 (Q (Ex.exit (2 : Nat)) ([AV.ptr (0 : Nat) (0 : Nat), AV.ptr (1 : Nat) (0 : Nat), AV.ptr (2 : Nat) (0 : Nat)]) ([AObj.box
    [AV.int IntKind.i64 n, AV.int IntKind.i64 pi, AV.int IntKind.i64 e, AV.int IntKind.i64 g, AV.int IntKind.i64 fi,
      AV.row nl [K.int IntKind.i64] ps],
  AObj.box
    [AV.row x0 [K.int IntKind.i64] xr0, AV.row x1 [K.int IntKind.i64] xr1, AV.row x2 [K.int IntKind.i64] xr2,
      AV.row x3 [K.int IntKind.i64, K.int IntKind.i64, K.int IntKind.i64, K.int IntKind.i64] xr3, AV.int IntKind.i64 xk,
      AV.int IntKind.i64 xa, AV.int IntKind.i64 xf, AV.int IntKind.i64 xt,
      AV.row x4 [K.int IntKind.i64, K.int IntKind.i64, K.str] xr4, AV.row x5 [K.int IntKind.i64] xr5,
      AV.int IntKind.i64 xz],
  AObj.box
    [AV.row y0 [K.int IntKind.i64] yr0, AV.row y1 [K.int IntKind.i64] yr1, AV.row y2 [K.int IntKind.i64] yr2,
      AV.row y3 [K.int IntKind.i64, K.int IntKind.i64, K.int IntKind.i64, K.int IntKind.i64] yr3, AV.int IntKind.i64 yk,
      AV.int IntKind.i64 ya, AV.int IntKind.i64 yf, AV.int IntKind.i64 yt,
      AV.row y4 [K.int IntKind.i64, K.int IntKind.i64, K.str] yr4, AV.row y5 [K.int IntKind.i64] yr5,
      AV.int IntKind.i64 yz]]))) := by kernel_rfl
theorem nfOwnC (n pi e g fi : Int) (nl : Bool) (ps : List (List AV)) (i : Int) (x0 x1 x2 x3 x4 x5 : Bool) (xr0 xr1 xr2 xr3 xr4 xr5 : List (List AV)) (xk xa xf xt xz : Int) (y0 y1 y2 y3 y4 y5 : Bool) (yr0 yr1 yr2 yr3 yr4 yr5 : List (List AV)) (yk ya yf yt yz : Int) (Q : Ex → List AV → List AObj → Prop) : lpBody Try.prog H0 Y2 6 6 8 23 [.ptr 0 0, .ptr 1 0, .ptr 2 0, .int .i64 i] [.box [.int .i64 n, .int .i64 pi, .int .i64 e, .int .i64 g, .int .i64 fi, .row nl [.int .i64] ps], .box [.row x0 [.int .i64] xr0, .row x1 [.int .i64] xr1, .row x2 [.int .i64] xr2, .row x3 [.int .i64, .int .i64, .int .i64, .int .i64] xr3, .int .i64 xk, .int .i64 xa, .int .i64 xf, .int .i64 xt, .row x4 [.int .i64, .int .i64, .str] xr4, .row x5 [.int .i64] xr5, .int .i64 xz], .box [.row y0 [.int .i64] yr0, .row y1 [.int .i64] yr1, .row y2 [.int .i64] yr2, .row y3 [.int .i64, .int .i64, .int .i64, .int .i64] yr3, .int .i64 yk, .int .i64 ya, .int .i64 yf, .int .i64 yt, .row y4 [.int .i64, .int .i64, .str] yr4, .row y5 [.int .i64] yr5, .int .i64 yz]] Q = (
br (decide (i < (↑xr4.length : Int)))
 (chk ((0 : Int) ≤ i ∧ i < (↑xr4.length : Int)) (chk ((0 : Int) ≤ i ∧ i < (↑yr4.length : Int)) (br (!(((xr4.getD i.toNat []).getD (0 : Nat) AV.gone).toI == ((yr4.getD i.toNat []).getD (0 : Nat) AV.gone).toI &&
    (((xr4.getD i.toNat []).getD (1 : Nat) AV.gone).toI == ((yr4.getD i.toNat []).getD (1 : Nat) AV.gone).toI &&
      (((xr4.getD i.toNat []).getD (2 : Nat) AV.gone).toS.toList ==
          ((yr4.getD i.toNat []).getD (2 : Nat) AV.gone).toS.toList &&
        true))))
  (Q (Ex.ret) ([AV.bool false]) ([]))
  (Q (Ex.nrm) ([AV.ptr (0 : Nat) (0 : Nat), AV.ptr (1 : Nat) (0 : Nat), AV.ptr (2 : Nat) (0 : Nat),
  AV.int IntKind.i64 (IntKind.i64.wrap (i + (1 : Int)))]) ([AObj.box
    [AV.int IntKind.i64 n, AV.int IntKind.i64 pi, AV.int IntKind.i64 e, AV.int IntKind.i64 g, AV.int IntKind.i64 fi,
      AV.row nl [K.int IntKind.i64] ps],
  AObj.box
    [AV.row x0 [K.int IntKind.i64] xr0, AV.row x1 [K.int IntKind.i64] xr1, AV.row x2 [K.int IntKind.i64] xr2,
      AV.row x3 [K.int IntKind.i64, K.int IntKind.i64, K.int IntKind.i64, K.int IntKind.i64] xr3, AV.int IntKind.i64 xk,
      AV.int IntKind.i64 xa, AV.int IntKind.i64 xf, AV.int IntKind.i64 xt,
      AV.row x4 [K.int IntKind.i64, K.int IntKind.i64, K.str] xr4, AV.row x5 [K.int IntKind.i64] xr5,
      AV.int IntKind.i64 xz],
  AObj.box
    [AV.row y0 [K.int IntKind.i64] yr0, AV.row y1 [K.int IntKind.i64] yr1, AV.row y2 [K.int IntKind.i64] yr2,
      AV.row y3 [K.int IntKind.i64, K.int IntKind.i64, K.int IntKind.i64, K.int IntKind.i64] yr3, AV.int IntKind.i64 yk,
      AV.int IntKind.i64 ya, AV.int IntKind.i64 yf, AV.int IntKind.i64 yt,
      AV.row y4 [K.int IntKind.i64, K.int IntKind.i64, K.str] yr4, AV.row y5 [K.int IntKind.i64] yr5,
      AV.int IntKind.i64 yz]])))))
 (Q (Ex.exit (4 : Nat)) ([AV.ptr (0 : Nat) (0 : Nat), AV.ptr (1 : Nat) (0 : Nat)]) ([AObj.box
    [AV.int IntKind.i64 n, AV.int IntKind.i64 pi, AV.int IntKind.i64 e, AV.int IntKind.i64 g, AV.int IntKind.i64 fi,
      AV.row nl [K.int IntKind.i64] ps],
  AObj.box
    [AV.row x0 [K.int IntKind.i64] xr0, AV.row x1 [K.int IntKind.i64] xr1, AV.row x2 [K.int IntKind.i64] xr2,
      AV.row x3 [K.int IntKind.i64, K.int IntKind.i64, K.int IntKind.i64, K.int IntKind.i64] xr3, AV.int IntKind.i64 xk,
      AV.int IntKind.i64 xa, AV.int IntKind.i64 xf, AV.int IntKind.i64 xt,
      AV.row x4 [K.int IntKind.i64, K.int IntKind.i64, K.str] xr4, AV.row x5 [K.int IntKind.i64] xr5,
      AV.int IntKind.i64 xz]]))) := by kernel_rfl
theorem nfOwn (n pi e g fi : Int) (nl : Bool) (ps : List (List AV)) (nl2 : Bool) (rs : List (List AV)) (b : Int) (Q : AV × List AObj → Prop) : inlW Try.prog H0 Y3 6 (InO Try.prog H0 Y3 6 6) 8 [cf n pi e g fi nl ps, .row nl2 [.int .u8] rs, .int .u8 b] [] Q = (
br (decide ((↑rs.length : Int) > (300 : Int)))
 (Q ((AV.bool true, [])))
 ((∀ (n'101 : Int),
 (∀ (pi'102 : Int),
 (∀ (e'103 : Int),
 (∀ (g'104 : Int),
 (∀ (fi'105 : Int),
 (∀ (nl'106 : Bool),
 (∀ (ps107 : List Int),
 ((s_made n'101 pi'102 e'103 g'104 fi'105 ps107) →
 chk (((0 : Nat) + rs.length) * (1 : Nat) ≤ (140737488355328 : Nat)) (chk ((0 : Nat) + rs.length ≤ (9223372036854775807 : Nat)) (((Hyp (s_confOk n'101 pi'102 e'103 g'104 fi'105
      (List.map (fun r => (r.getD (0 : Nat) AV.gone).toI) (List.map (fun n => [AV.int IntKind.i64 n]) ps107)) =
    true ∧
  s_bytes ([] ++ rs) ∧ (0 : Nat) + rs.length = ([] ++ rs).length ∧ ([] ++ rs).length ≤ (100000 : Nat))) ∧
 ((∀ (rs'112 : List (List AV)),
 ((rs'112 = [] ++ rs) →
 (∀ (nl'114 : Bool),
 ((Hyp ((0 : Int) ≤ (0 : Int) ∧
  (0 : Int) ≤ (↑((0 : Nat) + rs.length) : Int) ∧
    (0 : Nat) + rs.length ≤ (1000 : Nat) ∧
      (0 : Nat) + rs.length = rs.length ∧
        ([] ++ rs).length = rs.length ∧ List.drop (0 : Nat) ([] ++ rs) = List.drop (0 : Nat) rs)) ∧
 (((Hyp (s_confOk n'101 pi'102 e'103 g'104 fi'105
      (List.map (fun r => (r.getD (0 : Nat) AV.gone).toI) (List.map (fun n => [AV.int IntKind.i64 n]) ps107)) =
    true ∧
  s_bytes rs ∧ (nl2 = true → rs = []) ∧ rs.length ≤ (100000 : Nat))) ∧
 ((∀ (rs'117 : List (List AV)),
 ((rs'117 = rs) →
 (∀ (nl'119 : Bool),
 br ((↑(s_rowi (s_on rs'112 n'101.toNat)).length : Int) != n'101)
  (Q ((AV.bool false, [])))
  (br ((↑(s_rowi (s_on rs'117 n'101.toNat)).length : Int) != n'101)
   (Q ((AV.bool false, [])))
   (br ((20 : Int) + (s_at rs'112 (s_rN n'101 rs'112 + (0 : Nat))).tmod (40 : Int) !=
  (20 : Int) + (s_at rs'117 (s_rN n'101 rs'117 + (0 : Nat))).tmod (40 : Int))
    (Q ((AV.bool false, [])))
    (br ((↑(s_calls n'101 (↑(List.map (fun n => [AV.int IntKind.i64 n]) ps107).length : Int)
          (s_drop (s_rN n'101 rs'112 + (1 : Nat) + (1 : Nat)) rs'112) (s_cN n'101 rs'112)).length :
    Int) !=
  (↑(s_calls n'101 (↑(List.map (fun n => [AV.int IntKind.i64 n]) ps107).length : Int)
          (s_drop (s_rN n'101 rs'117 + (1 : Nat) + (1 : Nat)) rs'117) (s_cN n'101 rs'117)).length :
    Int))
     (Q ((AV.bool false, [])))
     (br ((↑(s_acts (s_drop (n'101.toNat + (8 : Nat) + (8 : Nat) + (5 : Nat)) rs'112)
          (s_fA (s_drop (n'101.toNat + (8 : Nat) + (8 : Nat)) rs'112))).length :
    Int) !=
  (↑(s_acts (s_drop (n'101.toNat + (8 : Nat) + (8 : Nat) + (5 : Nat)) rs'117)
          (s_fA (s_drop (n'101.toNat + (8 : Nat) + (8 : Nat)) rs'117))).length :
    Int))
      (Q ((AV.bool false, [])))
      (br (s_fat n'101 ((s_at rs'112 (n'101.toNat + (8 : Nat) + (8 : Nat) + (0 : Nat))).tmod (3 : Int))
    (s_at rs'112 (n'101.toNat + (8 : Nat) + (8 : Nat) + (1 : Nat))) !=
  s_fat n'101 ((s_at rs'117 (n'101.toNat + (8 : Nat) + (8 : Nat) + (0 : Nat))).tmod (3 : Int))
    (s_at rs'117 (n'101.toNat + (8 : Nat) + (8 : Nat) + (1 : Nat))))
       (Q ((AV.bool false, [])))
       (((Hyp ((0 : Int) ≤ (0 : Int) ∧
  n'101 ≤ (1000 : Int) ∧
    n'101 ≤ (↑(s_rowi (s_on rs'112 n'101.toNat)).length : Int) ∧
      s_rowi (s_on rs'117 n'101.toNat) = s_rowi (s_on rs'112 n'101.toNat))) ∧
       (((Hyp ((0 : Int) ≤ (0 : Int) ∧
  (s_acts (s_drop (n'101.toNat + (8 : Nat) + (8 : Nat) + (5 : Nat)) rs'112)
          (s_fA (s_drop (n'101.toNat + (8 : Nat) + (8 : Nat)) rs'112))).length ≤
      (1000 : Nat) ∧
    s_acts (s_drop (n'101.toNat + (8 : Nat) + (8 : Nat) + (5 : Nat)) rs'117)
        (s_fA (s_drop (n'101.toNat + (8 : Nat) + (8 : Nat)) rs'117)) =
      s_acts (s_drop (n'101.toNat + (8 : Nat) + (8 : Nat) + (5 : Nat)) rs'112)
        (s_fA (s_drop (n'101.toNat + (8 : Nat) + (8 : Nat)) rs'112)))) ∧
       (((Hyp ((0 : Int) ≤ n'101 ∧
  n'101 ≤ (1000000 : Int) ∧
    (s_rowi (s_on rs'112 n'101.toNat)).length ≤ (9223372036854775807 : Nat) ∧
      (s_calls n'101 (↑(List.map (fun n => [AV.int IntKind.i64 n]) ps107).length : Int)
              (s_drop (s_rN n'101 rs'112 + (1 : Nat) + (1 : Nat)) rs'112) (s_cN n'101 rs'112)).length ≤
          (9223372036854775807 : Nat) ∧
        (s_acts (s_drop (n'101.toNat + (8 : Nat) + (8 : Nat) + (5 : Nat)) rs'112)
              (s_fA (s_drop (n'101.toNat + (8 : Nat) + (8 : Nat)) rs'112))).length ≤
          (9223372036854775807 : Nat))) ∧
       (Q ((AV.bool
    (s_scheck n'101 (List.map (fun n => [AV.int IntKind.i64 n]) ps107).length (s_rowi (s_on rs'112 n'101.toNat))
        (s_rowi (s_sg (s_drop n'101.toNat rs'112) (1 : Int) (8 : Nat)))
        (s_rowi (s_sg (s_drop (n'101.toNat + (8 : Nat)) rs'112) (1 : Int) (8 : Nat)))
        (s_calls n'101 (↑(List.map (fun n => [AV.int IntKind.i64 n]) ps107).length : Int)
          (s_drop (s_rN n'101 rs'112 + (1 : Nat) + (1 : Nat)) rs'112) (s_cN n'101 rs'112))
        ((s_at rs'112 (n'101.toNat + (8 : Nat) + (8 : Nat) + (0 : Nat))).tmod (3 : Int))
        (s_fat n'101 ((s_at rs'112 (n'101.toNat + (8 : Nat) + (8 : Nat) + (0 : Nat))).tmod (3 : Int))
          (s_at rs'112 (n'101.toNat + (8 : Nat) + (8 : Nat) + (1 : Nat))))
        ((s_at rs'112 (n'101.toNat + (8 : Nat) + (8 : Nat) + (2 : Nat))).tmod (60 : Int))
        ((s_at rs'112 (n'101.toNat + (8 : Nat) + (8 : Nat) + (2 : Nat))).tmod (60 : Int) +
          (s_at rs'112 (n'101.toNat + (8 : Nat) + (8 : Nat) + (3 : Nat))).tmod (60 : Int))
        (s_acts (s_drop (n'101.toNat + (8 : Nat) + (8 : Nat) + (5 : Nat)) rs'112)
          (s_fA (s_drop (n'101.toNat + (8 : Nat) + (8 : Nat)) rs'112)))
        (s_rowi
          (s_sg
            (s_drop (n'101.toNat + (8 : Nat) + (8 : Nat) + s_fN (s_drop (n'101.toNat + (8 : Nat) + (8 : Nat)) rs'112))
              rs'112)
            (8 : Int) (4 : Nat)))
        ((20 : Int) + (s_at rs'112 (s_rN n'101 rs'112 + (0 : Nat))).tmod (40 : Int)) ==
      (0 : Int)),
  [])))))))))))))))))))))))))))))))))))))) := by kernel_rfl
end Go.Proofs.YthihinlamlamhaaE
/- ScriptOwn holds. -/
namespace Go.Proofs.YthihinlamlamhaaE
open Go
set_option linter.unusedVariables false
set_option linter.unusedSimpArgs false
set_option maxRecDepth 100000

theorem drop_getD {a b : List (List AV)} {k : Nat} (h : a.drop k = b.drop k) : a.getD k [] = b.getD k [] := by
  rw [List.getD_eq_getElem?_getD, List.getD_eq_getElem?_getD]
  have : (a.drop k)[0]? = (b.drop k)[0]? := by rw [h]
  rw [List.getElem?_drop, List.getElem?_drop, Nat.add_zero] at this
  rw [this]
theorem drop_set {a b : List (List AV)} {k : Nat} {v : List AV} (h : a.drop k = b.drop k) : (a.set k v).drop (k + 1) = b.drop (k + 1) := by
  rw [List.drop_set_of_lt (by omega), ← List.drop_drop (i := 1) (j := k), ← List.drop_drop (i := 1) (j := k), h]
theorem okLOwnA : OkLp Try.prog H0 8 9 lOwnA := by
  refine okLp_of (U := 6) (k := 6) okY2 lOwnA (fun vals _ => match vals with | [_, _, _, .sl _ _ m, _, .int _ i] => ((m : Int) - i).toNat | _ => 0) fun vals h Q hl => ?_
  unfold lOwnA at hl
  split at hl
  · rename_i nl2 rs b m i n pi e g fi nl ps rows x0 xr0 x1 xr1 x2 xr2 x3 xr3 xk xa xf xt x4 xr4 x5 xr5 xz
    obtain ⟨⟨h0, h1, h2, h3, h4, h5⟩, hq⟩ := hyp_iff.1 hl
    refine to (nfOwnA ..) (br_intro (fun c => ?_) fun c => hq)
    have c := of_decide_eq_true c
    have w1 : IntKind.i64.wrap (i + 1) = i + 1 := wr (by omega) (by omega)
    have hg := drop_getD h5
    simp only [chk_iff, Nat.zero_add]
    refine ⟨by omega, by omega, by omega, br_intro (fun c2 => ?_) fun c2 => ⟨by omega, by omega, by omega, by omega, ?_⟩⟩
    · rw [hg] at c2
      simp at c2
    · rw [w1]
      refine ⟨by show ((m : Int) - (i + 1)).toNat < ((m : Int) - i).toNat; omega, hyp_iff.2 ⟨⟨by omega, by omega, h2, h3, by rw [List.length_set]; exact h4, ?_⟩, hq⟩⟩
      rw [show (i + 1).toNat = i.toNat + 1 by omega]
      exact drop_set h5
  · exact hl.elim
theorem okLOwnB : OkLp Try.prog H0 8 18 lOwnB := by
  refine okLp_of (U := 6) (k := 6) okY2 lOwnB (fun vals _ => match vals with | [_, _, _, .int _ i] => ((1000 : Int) - i).toNat | _ => 0) fun vals h Q hl => ?_
  unfold lOwnB at hl
  split at hl
  rotate_left
  · exact hl.elim
  rename_i i n pi e g fi nl ps X Y
  split at hl
  rotate_left
  · exact hl.elim
  rename_i x0 xr0 x1 xr1 x2 xr2 x3 xr3 xk xa xf xt x4 xr4 x5 xr5 xz
  split at hl
  · rename_i y0 yr0 y1 yr1 y2 yr2 y3 yr3 yk ya yf yt y4 yr4 y5 yr5 yz
    obtain ⟨⟨h0, h1, h2, h3⟩, hq⟩ := hyp_iff.1 hl
    subst h3
    refine to (nfOwnB ..) (br_intro (fun c => ?_) fun c => hq)
    have c := of_decide_eq_true c
    have w1 : IntKind.i64.wrap (i + 1) = i + 1 := wr (by omega) (by omega)
    simp only [chk_iff]
    refine ⟨by omega, by omega, br_intro (fun c2 => ?_) fun c2 => ?_⟩
    · simp at c2
    · rw [w1]
      exact ⟨by show ((1000 : Int) - (i + 1)).toNat < ((1000 : Int) - i).toNat; omega, hyp_iff.2 ⟨⟨by omega, by omega, by omega, rfl⟩, hq⟩⟩
  · exact hl.elim
theorem okLOwnC : OkLp Try.prog H0 8 23 lOwnC := by
  refine okLp_of (U := 6) (k := 6) okY2 lOwnC (fun vals _ => match vals with | [_, _, _, .int _ i] => ((1000 : Int) - i).toNat | _ => 0) fun vals h Q hl => ?_
  unfold lOwnC at hl
  split at hl
  rotate_left
  · exact hl.elim
  rename_i i n pi e g fi nl ps X Y
  split at hl
  rotate_left
  · exact hl.elim
  rename_i x0 xr0 x1 xr1 x2 xr2 x3 xr3 xk xa xf xt x4 xr4 x5 xr5 xz
  split at hl
  · rename_i y0 yr0 y1 yr1 y2 yr2 y3 yr3 yk ya yf yt y4 yr4 y5 yr5 yz
    obtain ⟨⟨h0, h1, h2⟩, hq⟩ := hyp_iff.1 hl
    subst h2
    refine to (nfOwnC ..) (br_intro (fun c => ?_) fun c => hq)
    have c := of_decide_eq_true c
    have w1 : IntKind.i64.wrap (i + 1) = i + 1 := wr (by omega) (by omega)
    simp only [chk_iff]
    refine ⟨by omega, by omega, br_intro (fun c2 => ?_) fun c2 => ?_⟩
    · simp at c2
    · rw [w1]
      exact ⟨by show ((1000 : Int) - (i + 1)).toNat < ((1000 : Int) - i).toNat; omega, hyp_iff.2 ⟨⟨by omega, by omega, rfl⟩, hq⟩⟩
  · exact hl.elim
theorem okY3 : OkSp Try.prog H0 Y3 := ⟨okY2.fn, okLOwnA, okLOwnB, okLOwnC, trivial⟩
theorem own_holds (n pi e g fi : Int) (nl : Bool) (ps : List (List AV)) (nl2 : Bool) (rs : List (List AV)) (hb : s_bytes rs) (hn0 : nl2 = true → rs = []) (b : Int) :
    inlW Try.prog H0 Y3 6 (InO Try.prog H0 Y3 6 6) 8 [cf n pi e g fi nl ps, .row nl2 [.int .u8] rs, .int .u8 b] [] (fun r => r.1 = .bool true) := by
  refine to (nfOwn ..) (br_intro (fun _ => rfl) fun hl => ?_)
  have hl := of_decide_eq_false hl
  intro n' pi' e' g' fi' nl' qs hm
  have hc : s_confOk n' pi' e' g' fi' (List.map (fun r => (r.getD (0 : Nat) AV.gone).toI) (List.map (fun n => [AV.int IntKind.i64 n]) qs)) = true := cfMade_ok hm
  have hn := hm.1
  have hn2 := hm.2.1
  clear hm
  have o1 : ∀ (l : List Int), (s_rowi l).length = l.length := fun l => by unfold s_rowi; rw [irow_len]
  have o6 : s_cN n' rs ≤ 15 := by
    unfold s_cN
    have := at_mod hb (s_rN n' rs + 1 + 0) (show (0 : Int) < 16 by omega)
    omega
  have o7 : s_fA (s_drop (n'.toNat + 8 + 8) rs) ≤ 7 := by
    unfold s_fA
    have := at_mod (bytes_drop (n'.toNat + 8 + 8) hb) 4 (show (0 : Int) < 8 by omega)
    omega
  have e1 : (s_rowi (s_on rs n'.toNat)).length = n'.toNat := by rw [o1, on_len]
  have e2 : (s_acts (s_drop (n'.toNat + 8 + 8 + 5) rs) (s_fA (s_drop (n'.toNat + 8 + 8) rs))).length = s_fA (s_drop (n'.toNat + 8 + 8) rs) := acts_len _ _
  have e3 : (s_calls n' (List.map (fun n => [AV.int IntKind.i64 n]) qs).length (s_drop (s_rN n' rs + 1 + 1) rs) (s_cN n' rs)).length = s_cN n' rs := calls_len _ _ _ _
  simp only [chk_iff, hyp_iff, Nat.zero_add, List.nil_append]
  refine ⟨by omega, by omega, ⟨hc, hb, trivial, by omega⟩, fun r1 hr1 _ => ⟨⟨by omega, by omega, by omega, trivial, trivial, trivial⟩, ⟨hc, hb, hn0, by omega⟩, fun r2 hr2 _ => ?_⟩⟩
  subst hr1
  subst hr2
  rw [e1, e2, e3]
  refine br_intro (fun c => ?_) fun _ => br_intro (fun c => ?_) fun _ => br_intro (fun c => ?_) fun _ => br_intro (fun c => ?_) fun _ => br_intro (fun c => ?_) fun _ => br_intro (fun c => ?_) fun _ => ?_
  · have c := bne_iff_ne.1 c; omega
  · have c := bne_iff_ne.1 c; omega
  · have c := bne_iff_ne.1 c; exact absurd rfl c
  · have c := bne_iff_ne.1 c; exact absurd rfl c
  · have c := bne_iff_ne.1 c; exact absurd rfl c
  · have c := bne_iff_ne.1 c; exact absurd rfl c
  · refine ⟨⟨by omega, by omega, by omega, rfl⟩, ⟨by omega, by omega, rfl⟩, ⟨by omega, by omega, by omega, by omega, by omega⟩, ?_⟩
    show AV.bool _ = AV.bool true
    rw [scheck_of _ hb hn hn2]
    rfl
end Go.Proofs.YthihinlamlamhaaE
