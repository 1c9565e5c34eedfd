/- A script of bytes: the whole. -/
import Derived.Test.YthihinlamlamhaaBbA
import Derived.KernelRfl
namespace Go.Proofs.YthihinlamlamhaaE
open Go
set_option linter.unusedVariables false

def s_rowi (l : List Int) : List (List AV) := irow .i64 l
def sCloneB : SW := fun args h Q => match args, h with
  | [.row nl [.int .u8] rs], [] => Hyp ((nl = true → rs = []) ∧ rs.length ≤ 100000) ∧ ∀ nl' : Bool, Q (.row nl' [.int .u8] rs, [])
  | _, _ => False
abbrev shC4 : List K := [.int .i64, .int .i64, .int .i64, .int .i64]
def lCl (i m n np k at_ fr to_ z : Int) (a0 a1 a2 a3 a4 : Bool) (r0 r1 r2 r3 r4 : List (List AV)) (Q : Ex → List AV → List AObj → Prop) (F : AV) (C : AV) (rest : List AObj) : Prop := match F, C, rest with
  | .fn (.func 26) [.ptr 3 0] [], .nils, [.box [.row nl2 [.int .u8] rs]] => Hyp (i = 0 ∧ 0 ≤ m ∧ m ≤ 100 ∧ n ≠ 0 ∧ 0 ≤ np ∧ np ≤ 100) ∧
      ((m = 0 → Q (.exit 0) [.ptr 0 0, .ptr 1 0] [.box [.nils, .nils, .nils, .nils, .int .i64 0, .int .i64 0, .int .i64 0, .int .i64 0, .nils, .nils, .int .i64 0],
        .box [.row a0 [.int .i64] r0, .row a1 [.int .i64] r1, .row a2 [.int .i64] r2, .nils, .int .i64 k, .int .i64 at_, .int .i64 fr, .int .i64 to_, .row a3 [.int .i64, .int .i64, .str] r3, .row a4 [.int .i64] r4, .int .i64 z]]) ∧
       (∀ rows', rows' = s_calls n np rs m.toNat → Q (.exit 0) [.ptr 0 0, .ptr 1 0] [.box [.nils, .nils, .nils, .nils, .int .i64 0, .int .i64 0, .int .i64 0, .int .i64 0, .nils, .nils, .int .i64 0],
        .box [.row a0 [.int .i64] r0, .row a1 [.int .i64] r1, .row a2 [.int .i64] r2, .sl 2 0 m.toNat, .int .i64 k, .int .i64 at_, .int .i64 fr, .int .i64 to_, .row a3 [.int .i64, .int .i64, .str] r3, .row a4 [.int .i64] r4, .int .i64 z],
        .arr 2 43 [.int .i64, .int .i64, .int .i64, .int .i64] rows']))
  | .fn (.func 26) [.ptr 4 0] [], .sl 3 0 j, [.arr 2 43 [.int .i64, .int .i64, .int .i64, .int .i64] rows, .box [.row nl2 [.int .u8] rs]] => (i = j ∧ i ≤ m ∧ m ≤ 100 ∧ n ≠ 0 ∧ 0 ≤ np ∧ np ≤ 100 ∧ rows.length = j) ∧
       (∀ rows', rows' = rows ++ s_calls n np rs (m - i).toNat → Q (.exit 0) [.ptr 0 0, .ptr 1 0] [.box [.nils, .nils, .nils, .nils, .int .i64 0, .int .i64 0, .int .i64 0, .int .i64 0, .nils, .nils, .int .i64 0],
        .box [.row a0 [.int .i64] r0, .row a1 [.int .i64] r1, .row a2 [.int .i64] r2, .sl 2 0 m.toNat, .int .i64 k, .int .i64 at_, .int .i64 fr, .int .i64 to_, .row a3 [.int .i64, .int .i64, .str] r3, .row a4 [.int .i64] r4, .int .i64 z],
        .arr 2 43 [.int .i64, .int .i64, .int .i64, .int .i64] rows'])
  | _, _, _ => False
def lCalls : LW := fun vals h Q => match vals, h with
  | [.ptr 0 0, .ptr 1 0, .ptr 2 0, F, .int .i64 m, .int .i64 i], .box [.int .i64 n, .int .i64 pi, .int .i64 e, .int .i64 g, .int .i64 fi, .row nl [.int .i64] ps] ::
      .box [.nils, .nils, .nils, .nils, .int .i64 0, .int .i64 0, .int .i64 0, .int .i64 0, .nils, .nils, .int .i64 0] ::
      .box [.row a0 [.int .i64] r0, .row a1 [.int .i64] r1, .row a2 [.int .i64] r2, C, .int .i64 k, .int .i64 at_, .int .i64 fr, .int .i64 to_, .row a3 [.int .i64, .int .i64, .str] r3, .row a4 [.int .i64] r4, .int .i64 z] :: rest =>
    lCl i m n ps.length k at_ fr to_ z a0 a1 a2 a3 a4 r0 r1 r2 r3 r4 Q F C rest
  | _, _ => False
def sCloneC : SW := fun args h Q => match args, h with
  | [.row nl [.int .i64, .int .i64, .int .i64, .int .i64] rs], [] => Hyp (nl = false ∧ rs.length ≤ 100000) ∧ Q (.row false [.int .i64, .int .i64, .int .i64, .int .i64] rs, [])
  | [.nils], [] => Q (.row true [.int .i64, .int .i64, .int .i64, .int .i64] [], [])
  | _, _ => False
/-- How many bytes stand ahead of the rounds. -/
def s_rN (n : Int) (rs : List (List AV)) : Nat := n.toNat + 8 + 8 + (s_fN (s_drop (n.toNat + 8 + 8) rs) + 4)
def s_cN (n : Int) (rs : List (List AV)) : Nat := ((s_at rs (s_rN n rs + 1 + 0)).tmod 16).toNat
def sOfS : SW := fun args h Q => match args, h with
  | [.agg [.int .i64 n, .int .i64 pi, .int .i64 e, .int .i64 g, .int .i64 fi, .row nl [.int .i64] ps], .row nl2 [.int .u8] rs], [] =>
    Hyp (s_confOk n pi e g fi (ints ps) = true ∧ s_bytes rs ∧ (nl2 = true → rs = []) ∧ rs.length ≤ 100000) ∧ ∀ nl' : Bool, Q (.agg [.row false [.int .i64] (s_rowi (s_on rs n.toNat)), .row false [.int .i64] (s_rowi (s_sg (s_drop n.toNat rs) 1 8)), .row false [.int .i64] (s_rowi (s_sg (s_drop (n.toNat + 8) rs) 1 8)),
      .row nl' [.int .i64, .int .i64, .int .i64, .int .i64] (s_calls n ps.length (s_drop (s_rN n rs + 1 + 1) rs) (s_cN n rs)),
      .int .i64 ((s_at rs (n.toNat + 8 + 8 + 0)).tmod 3), .int .i64 (s_fat n ((s_at rs (n.toNat + 8 + 8 + 0)).tmod 3) (s_at rs (n.toNat + 8 + 8 + 1))), .int .i64 ((s_at rs (n.toNat + 8 + 8 + 2)).tmod 60), .int .i64 ((s_at rs (n.toNat + 8 + 8 + 2)).tmod 60 + (s_at rs (n.toNat + 8 + 8 + 3)).tmod 60),
      .row false [.int .i64, .int .i64, .str] (s_acts (s_drop (n.toNat + 8 + 8 + 5) rs) (s_fA (s_drop (n.toNat + 8 + 8) rs))), .row false [.int .i64] (s_rowi (s_sg (s_drop (n.toNat + 8 + 8 + s_fN (s_drop (n.toNat + 8 + 8) rs)) rs) 8 4)),
      .int .i64 (20 + (s_at rs (s_rN n rs + 0)).tmod 40)], [])
  | _, _ => False
def S6 : Sp := ⟨(20, sCloneB) :: (27, sCloneC) :: (19, sCheck) :: (10, sMake) :: S5.fn, []⟩
def S6L : Sp := ⟨S6.fn, [(11, 13, lCalls)]⟩
def S7 : Sp := ⟨(11, sOfS) :: S6.fn, []⟩
end Go.Proofs.YthihinlamlamhaaE
/- What path mode says of functions, printed by a program of this session; the kernel holds each. -/
namespace Go.Proofs.YthihinlamlamhaaE
open Go
set_option maxRecDepth 100000
set_option linter.unusedVariables false
theorem nf20 (nl : Bool) (rs : List (List AV)) (Q : AV × List AObj → Prop) : inlW Try.prog H0 S5 6 (InO Try.prog H0 S5 6 6) 20 [.row nl [.int .u8] rs] [] Q = (
br (nl)
 (Q ((AV.row true [K.int IntKind.u8] [], [])))
 (chk (((0 : Nat) + rs.length) * (1 : Nat) ≤ (140737488355328 : Nat)) (chk ((0 : Nat) + rs.length ≤ (9223372036854775807 : Nat)) (chk ((0 : Nat) + ((0 : Nat) + rs.length) ≤ ([] ++ rs).length) (Q ((AV.row false [K.int IntKind.u8] (List.take ((0 : Nat) + rs.length) (List.drop (0 : Nat) ([] ++ rs))), []))))))) := by kernel_rfl
theorem nf27 (nl : Bool) (rs : List (List AV)) (Q : AV × List AObj → Prop) : inlW Try.prog H0 S5 6 (InO Try.prog H0 S5 6 6) 27 [.row nl [.int .i64, .int .i64, .int .i64, .int .i64] rs] [] Q = (
br (nl)
 (Q ((AV.row true [K.int IntKind.i64, K.int IntKind.i64, K.int IntKind.i64, K.int IntKind.i64] [], [])))
 (chk (((0 : Nat) + rs.length) * (32 : Nat) ≤ (140737488355328 : Nat)) (chk ((0 : Nat) + rs.length ≤ (9223372036854775807 : Nat)) (chk ((0 : Nat) + ((0 : Nat) + rs.length) ≤ ([] ++ rs).length) (Q ((AV.row false [K.int IntKind.i64, K.int IntKind.i64, K.int IntKind.i64, K.int IntKind.i64]
    (List.take ((0 : Nat) + rs.length) (List.drop (0 : Nat) ([] ++ rs))),
  []))))))) := by kernel_rfl
theorem nf27n (Q : AV × List AObj → Prop) : inlW Try.prog H0 S5 6 (InO Try.prog H0 S5 6 6) 27 [.nils] [] Q = (
Q ((AV.row true [K.int IntKind.i64, K.int IntKind.i64, K.int IntKind.i64, K.int IntKind.i64] [], []))) := by kernel_rfl
theorem nf11a (i m n pi e g fi k at_ fr to_ z : Int) (nl nl2 a0 a1 a2 a3 a4 : Bool) (ps rs r0 r1 r2 r3 r4 : List (List AV)) (Q : Ex → List AV → List AObj → Prop) : lpBody Try.prog H0 S6 6 6 11 13 [.ptr 0 0, .ptr 1 0, .ptr 2 0, .fn (.func 26) [.ptr 3 0] [], .int .i64 m, .int .i64 i] [.box [.int .i64 n, .int .i64 pi, .int .i64 e, .int .i64 g, .int .i64 fi, .row nl [.int .i64] ps], .box [.nils, .nils, .nils, .nils, .int .i64 0, .int .i64 0, .int .i64 0, .int .i64 0, .nils, .nils, .int .i64 0], .box [.row a0 [.int .i64] r0, .row a1 [.int .i64] r1, .row a2 [.int .i64] r2, .nils, .int .i64 k, .int .i64 at_, .int .i64 fr, .int .i64 to_, .row a3 [.int .i64, .int .i64, .str] r3, .row a4 [.int .i64] r4, .int .i64 z], .box [.row nl2 [.int .u8] rs]] Q = (
br (decide (i < m))
 (((Hyp (n ≠ (0 : Int) ∧ ps.length ≤ (100 : Nat))) ∧
 (Q (Ex.nrm) ([AV.ptr (0 : Nat) (0 : Nat), AV.ptr (1 : Nat) (0 : Nat), AV.ptr (2 : Nat) (0 : Nat),
  AV.fn (Fn.func (26 : Nat)) [AV.ptr (4 : Nat) (0 : Nat)] [], AV.int IntKind.i64 m,
  AV.int IntKind.i64 (IntKind.i64.wrap (i + (1 : Int)))]) ([AObj.box
    [AV.int IntKind.i64 n, AV.int IntKind.i64 pi, AV.int IntKind.i64 e, AV.int IntKind.i64 g, AV.int IntKind.i64 fi,
      AV.row nl [K.int IntKind.i64] ps],
  AObj.box
    [AV.nils, AV.nils, AV.nils, AV.nils, AV.int IntKind.i64 (0 : Int), AV.int IntKind.i64 (0 : Int),
      AV.int IntKind.i64 (0 : Int), AV.int IntKind.i64 (0 : Int), AV.nils, AV.nils, AV.int IntKind.i64 (0 : Int)],
  AObj.box
    [AV.row a0 [K.int IntKind.i64] r0, AV.row a1 [K.int IntKind.i64] r1, AV.row a2 [K.int IntKind.i64] r2,
      AV.sl (3 : Nat) (0 : Nat) (1 : Nat), AV.int IntKind.i64 k, AV.int IntKind.i64 at_, AV.int IntKind.i64 fr,
      AV.int IntKind.i64 to_, AV.row a3 [K.int IntKind.i64, K.int IntKind.i64, K.str] r3,
      AV.row a4 [K.int IntKind.i64] r4, AV.int IntKind.i64 z],
  AObj.arr (2 : Nat) (43 : Nat) [K.int IntKind.i64, K.int IntKind.i64, K.int IntKind.i64, K.int IntKind.i64]
    [[AV.int IntKind.i64 ((s_at rs (0 : Nat)).tmod (60 : Int)), AV.int IntKind.i64 ((s_at rs (1 : Nat)).tmod n),
        AV.int IntKind.i64 ((s_at rs (2 : Nat)).tmod ((↑ps.length : Int) + (1 : Int))),
        AV.int IntKind.i64 (s_at rs (3 : Nat))]],
  AObj.box [AV.row nl2 [K.int IntKind.u8] (s_drop (4 : Nat) rs)]]))))
 (Q (Ex.exit (0 : Nat)) ([AV.ptr (0 : Nat) (0 : Nat), AV.ptr (1 : Nat) (0 : Nat)]) ([AObj.box
    [AV.nils, AV.nils, AV.nils, AV.nils, AV.int IntKind.i64 (0 : Int), AV.int IntKind.i64 (0 : Int),
      AV.int IntKind.i64 (0 : Int), AV.int IntKind.i64 (0 : Int), AV.nils, AV.nils, AV.int IntKind.i64 (0 : Int)],
  AObj.box
    [AV.row a0 [K.int IntKind.i64] r0, AV.row a1 [K.int IntKind.i64] r1, AV.row a2 [K.int IntKind.i64] r2, AV.nils,
      AV.int IntKind.i64 k, AV.int IntKind.i64 at_, AV.int IntKind.i64 fr, AV.int IntKind.i64 to_,
      AV.row a3 [K.int IntKind.i64, K.int IntKind.i64, K.str] r3, AV.row a4 [K.int IntKind.i64] r4,
      AV.int IntKind.i64 z]]))) := by kernel_rfl
theorem nf11b (i m n pi e g fi k at_ fr to_ z : Int) (j : Nat) (nl nl2 a0 a1 a2 a3 a4 : Bool) (ps rs r0 r1 r2 r3 r4 rows : List (List AV)) (Q : Ex → List AV → List AObj → Prop) : lpBody Try.prog H0 S6 6 6 11 13 [.ptr 0 0, .ptr 1 0, .ptr 2 0, .fn (.func 26) [.ptr 4 0] [], .int .i64 m, .int .i64 i] [.box [.int .i64 n, .int .i64 pi, .int .i64 e, .int .i64 g, .int .i64 fi, .row nl [.int .i64] ps], .box [.nils, .nils, .nils, .nils, .int .i64 0, .int .i64 0, .int .i64 0, .int .i64 0, .nils, .nils, .int .i64 0], .box [.row a0 [.int .i64] r0, .row a1 [.int .i64] r1, .row a2 [.int .i64] r2, .sl 3 0 j, .int .i64 k, .int .i64 at_, .int .i64 fr, .int .i64 to_, .row a3 [.int .i64, .int .i64, .str] r3, .row a4 [.int .i64] r4, .int .i64 z], .arr 2 43 [.int .i64, .int .i64, .int .i64, .int .i64] rows, .box [.row nl2 [.int .u8] rs]] Q = (
br (decide (i < m))
 (((Hyp (n ≠ (0 : Int) ∧ ps.length ≤ (100 : Nat))) ∧
 (chk (j = rows.length) (chk ((rows.length + (1 : Nat)) * (32 : Nat) ≤ (140737488355328 : Nat)) (chk (rows.length + (1 : Nat) ≤ (9223372036854775807 : Nat)) (Q (Ex.nrm) ([AV.ptr (0 : Nat) (0 : Nat), AV.ptr (1 : Nat) (0 : Nat), AV.ptr (2 : Nat) (0 : Nat),
  AV.fn (Fn.func (26 : Nat)) [AV.ptr (4 : Nat) (0 : Nat)] [], AV.int IntKind.i64 m,
  AV.int IntKind.i64 (IntKind.i64.wrap (i + (1 : Int)))]) ([AObj.box
    [AV.int IntKind.i64 n, AV.int IntKind.i64 pi, AV.int IntKind.i64 e, AV.int IntKind.i64 g, AV.int IntKind.i64 fi,
      AV.row nl [K.int IntKind.i64] ps],
  AObj.box
    [AV.nils, AV.nils, AV.nils, AV.nils, AV.int IntKind.i64 (0 : Int), AV.int IntKind.i64 (0 : Int),
      AV.int IntKind.i64 (0 : Int), AV.int IntKind.i64 (0 : Int), AV.nils, AV.nils, AV.int IntKind.i64 (0 : Int)],
  AObj.box
    [AV.row a0 [K.int IntKind.i64] r0, AV.row a1 [K.int IntKind.i64] r1, AV.row a2 [K.int IntKind.i64] r2,
      AV.sl (3 : Nat) (0 : Nat) (rows.length + (1 : Nat)), AV.int IntKind.i64 k, AV.int IntKind.i64 at_,
      AV.int IntKind.i64 fr, AV.int IntKind.i64 to_, AV.row a3 [K.int IntKind.i64, K.int IntKind.i64, K.str] r3,
      AV.row a4 [K.int IntKind.i64] r4, AV.int IntKind.i64 z],
  AObj.arr (2 : Nat) (43 : Nat) [K.int IntKind.i64, K.int IntKind.i64, K.int IntKind.i64, K.int IntKind.i64]
    (rows ++
      [[AV.int IntKind.i64 ((s_at rs (0 : Nat)).tmod (60 : Int)), AV.int IntKind.i64 ((s_at rs (1 : Nat)).tmod n),
          AV.int IntKind.i64 ((s_at rs (2 : Nat)).tmod ((↑ps.length : Int) + (1 : Int))),
          AV.int IntKind.i64 (s_at rs (3 : Nat))]]),
  AObj.box [AV.row nl2 [K.int IntKind.u8] (s_drop (4 : Nat) rs)]])))))))
 (Q (Ex.exit (0 : Nat)) ([AV.ptr (0 : Nat) (0 : Nat), AV.ptr (1 : Nat) (0 : Nat)]) ([AObj.box
    [AV.nils, AV.nils, AV.nils, AV.nils, AV.int IntKind.i64 (0 : Int), AV.int IntKind.i64 (0 : Int),
      AV.int IntKind.i64 (0 : Int), AV.int IntKind.i64 (0 : Int), AV.nils, AV.nils, AV.int IntKind.i64 (0 : Int)],
  AObj.box
    [AV.row a0 [K.int IntKind.i64] r0, AV.row a1 [K.int IntKind.i64] r1, AV.row a2 [K.int IntKind.i64] r2,
      AV.sl (2 : Nat) (0 : Nat) j, AV.int IntKind.i64 k, AV.int IntKind.i64 at_, AV.int IntKind.i64 fr,
      AV.int IntKind.i64 to_, AV.row a3 [K.int IntKind.i64, K.int IntKind.i64, K.str] r3,
      AV.row a4 [K.int IntKind.i64] r4, AV.int IntKind.i64 z],
  AObj.arr (2 : Nat) (43 : Nat) [K.int IntKind.i64, K.int IntKind.i64, K.int IntKind.i64, K.int IntKind.i64] rows]))) := by kernel_rfl
theorem nf11 (n pi e g fi : Int) (nl nl2 : Bool) (ps rs : List (List AV)) (Q : AV × List AObj → Prop) : inlW Try.prog H0 S6L 6 (InO Try.prog H0 S6L 6 6) 11 [cf n pi e g fi nl ps, .row nl2 [.int .u8] rs] [] Q = (
((Hyp (s_confOk n pi e g fi (List.map (fun r => (r.getD (0 : Nat) AV.gone).toI) ps) = true)) ∧
(((Hyp ((nl2 = true → rs = []) ∧ rs.length ≤ (100000 : Nat))) ∧
((∀ (nl'102 : Bool),
((Hyp ((0 : Int) ≤ n ∧ n ≤ (100 : Int))) ∧
(((Hyp ((0 : Int) ≤ (8 : Int) ∧ (8 : Int) ≤ (100 : Int))) ∧
(((Hyp ((0 : Int) ≤ (8 : Int) ∧ (8 : Int) ≤ (100 : Int))) ∧
(((Hyp ((6 : Int) ≤ n ∧ n ≤ (12 : Int) ∧ s_bytes (s_drop (8 : Nat) (s_drop (8 : Nat) (s_drop n.toNat rs))))) ∧
(((Hyp ((0 : Int) = (0 : Int) ∧
  (0 : Int) ≤
      (s_hd
            (s_drop (1 : Nat)
              (s_drop (s_fN (s_drop (8 : Nat) (s_drop (8 : Nat) (s_drop n.toNat rs))) + (4 : Nat))
                (s_drop (8 : Nat) (s_drop (8 : Nat) (s_drop n.toNat rs)))))).tmod
        (16 : Int) ∧
    (s_hd
              (s_drop (1 : Nat)
                (s_drop (s_fN (s_drop (8 : Nat) (s_drop (8 : Nat) (s_drop n.toNat rs))) + (4 : Nat))
                  (s_drop (8 : Nat) (s_drop (8 : Nat) (s_drop n.toNat rs)))))).tmod
          (16 : Int) ≤
        (100 : Int) ∧
      n ≠ (0 : Int) ∧ (0 : Int) ≤ (↑ps.length : Int) ∧ (↑ps.length : Int) ≤ (100 : Int))) ∧
((((((s_hd
        (s_drop (1 : Nat)
          (s_drop (s_fN (s_drop (8 : Nat) (s_drop (8 : Nat) (s_drop n.toNat rs))) + (4 : Nat))
            (s_drop (8 : Nat) (s_drop (8 : Nat) (s_drop n.toNat rs)))))).tmod
    (16 : Int) =
  (0 : Int)) →
Q ((AV.agg
    [AV.row false [K.int IntKind.i64] (List.map (fun n => [AV.int IntKind.i64 n]) (s_on rs n.toNat)),
      AV.row false [K.int IntKind.i64]
        [[AV.int IntKind.i64
              (IntKind.i64.wrap (IntKind.i64.wrap (s_at (s_drop n.toNat rs) (0 : Nat) - (128 : Int)) * (1 : Int)))],
          [AV.int IntKind.i64
              (IntKind.i64.wrap (IntKind.i64.wrap (s_at (s_drop n.toNat rs) (1 : Nat) - (128 : Int)) * (1 : Int)))],
          [AV.int IntKind.i64
              (IntKind.i64.wrap (IntKind.i64.wrap (s_at (s_drop n.toNat rs) (2 : Nat) - (128 : Int)) * (1 : Int)))],
          [AV.int IntKind.i64
              (IntKind.i64.wrap (IntKind.i64.wrap (s_at (s_drop n.toNat rs) (3 : Nat) - (128 : Int)) * (1 : Int)))],
          [AV.int IntKind.i64
              (IntKind.i64.wrap (IntKind.i64.wrap (s_at (s_drop n.toNat rs) (4 : Nat) - (128 : Int)) * (1 : Int)))],
          [AV.int IntKind.i64
              (IntKind.i64.wrap (IntKind.i64.wrap (s_at (s_drop n.toNat rs) (5 : Nat) - (128 : Int)) * (1 : Int)))],
          [AV.int IntKind.i64
              (IntKind.i64.wrap (IntKind.i64.wrap (s_at (s_drop n.toNat rs) (6 : Nat) - (128 : Int)) * (1 : Int)))],
          [AV.int IntKind.i64
              (IntKind.i64.wrap (IntKind.i64.wrap (s_at (s_drop n.toNat rs) (7 : Nat) - (128 : Int)) * (1 : Int)))]],
      AV.row false [K.int IntKind.i64]
        [[AV.int IntKind.i64
              (IntKind.i64.wrap
                (IntKind.i64.wrap (s_at (s_drop (8 : Nat) (s_drop n.toNat rs)) (0 : Nat) - (128 : Int)) * (1 : Int)))],
          [AV.int IntKind.i64
              (IntKind.i64.wrap
                (IntKind.i64.wrap (s_at (s_drop (8 : Nat) (s_drop n.toNat rs)) (1 : Nat) - (128 : Int)) * (1 : Int)))],
          [AV.int IntKind.i64
              (IntKind.i64.wrap
                (IntKind.i64.wrap (s_at (s_drop (8 : Nat) (s_drop n.toNat rs)) (2 : Nat) - (128 : Int)) * (1 : Int)))],
          [AV.int IntKind.i64
              (IntKind.i64.wrap
                (IntKind.i64.wrap (s_at (s_drop (8 : Nat) (s_drop n.toNat rs)) (3 : Nat) - (128 : Int)) * (1 : Int)))],
          [AV.int IntKind.i64
              (IntKind.i64.wrap
                (IntKind.i64.wrap (s_at (s_drop (8 : Nat) (s_drop n.toNat rs)) (4 : Nat) - (128 : Int)) * (1 : Int)))],
          [AV.int IntKind.i64
              (IntKind.i64.wrap
                (IntKind.i64.wrap (s_at (s_drop (8 : Nat) (s_drop n.toNat rs)) (5 : Nat) - (128 : Int)) * (1 : Int)))],
          [AV.int IntKind.i64
              (IntKind.i64.wrap
                (IntKind.i64.wrap (s_at (s_drop (8 : Nat) (s_drop n.toNat rs)) (6 : Nat) - (128 : Int)) * (1 : Int)))],
          [AV.int IntKind.i64
              (IntKind.i64.wrap
                (IntKind.i64.wrap (s_at (s_drop (8 : Nat) (s_drop n.toNat rs)) (7 : Nat) - (128 : Int)) * (1 : Int)))]],
      AV.row true [K.int IntKind.i64, K.int IntKind.i64, K.int IntKind.i64, K.int IntKind.i64] [],
      AV.int IntKind.i64 ((s_at (s_drop (8 : Nat) (s_drop (8 : Nat) (s_drop n.toNat rs))) (0 : Nat)).tmod (3 : Int)),
      AV.int IntKind.i64
        (s_fat n ((s_at (s_drop (8 : Nat) (s_drop (8 : Nat) (s_drop n.toNat rs))) (0 : Nat)).tmod (3 : Int))
          (s_at (s_drop (8 : Nat) (s_drop (8 : Nat) (s_drop n.toNat rs))) (1 : Nat))),
      AV.int IntKind.i64 ((s_at (s_drop (8 : Nat) (s_drop (8 : Nat) (s_drop n.toNat rs))) (2 : Nat)).tmod (60 : Int)),
      AV.int IntKind.i64
        ((s_at (s_drop (8 : Nat) (s_drop (8 : Nat) (s_drop n.toNat rs))) (2 : Nat)).tmod (60 : Int) +
          (s_at (s_drop (8 : Nat) (s_drop (8 : Nat) (s_drop n.toNat rs))) (3 : Nat)).tmod (60 : Int)),
      AV.row false [K.int IntKind.i64, K.int IntKind.i64, K.str]
        (s_acts (s_drop (5 : Nat) (s_drop (8 : Nat) (s_drop (8 : Nat) (s_drop n.toNat rs))))
          (s_fA (s_drop (8 : Nat) (s_drop (8 : Nat) (s_drop n.toNat rs))))),
      AV.row false [K.int IntKind.i64]
        [[AV.int IntKind.i64
              (IntKind.i64.wrap
                (IntKind.i64.wrap
                    (s_at
                        (s_drop (s_fN (s_drop (8 : Nat) (s_drop (8 : Nat) (s_drop n.toNat rs))))
                          (s_drop (8 : Nat) (s_drop (8 : Nat) (s_drop n.toNat rs))))
                        (0 : Nat) -
                      (128 : Int)) *
                  (8 : Int)))],
          [AV.int IntKind.i64
              (IntKind.i64.wrap
                (IntKind.i64.wrap
                    (s_at
                        (s_drop (s_fN (s_drop (8 : Nat) (s_drop (8 : Nat) (s_drop n.toNat rs))))
                          (s_drop (8 : Nat) (s_drop (8 : Nat) (s_drop n.toNat rs))))
                        (1 : Nat) -
                      (128 : Int)) *
                  (8 : Int)))],
          [AV.int IntKind.i64
              (IntKind.i64.wrap
                (IntKind.i64.wrap
                    (s_at
                        (s_drop (s_fN (s_drop (8 : Nat) (s_drop (8 : Nat) (s_drop n.toNat rs))))
                          (s_drop (8 : Nat) (s_drop (8 : Nat) (s_drop n.toNat rs))))
                        (2 : Nat) -
                      (128 : Int)) *
                  (8 : Int)))],
          [AV.int IntKind.i64
              (IntKind.i64.wrap
                (IntKind.i64.wrap
                    (s_at
                        (s_drop (s_fN (s_drop (8 : Nat) (s_drop (8 : Nat) (s_drop n.toNat rs))))
                          (s_drop (8 : Nat) (s_drop (8 : Nat) (s_drop n.toNat rs))))
                        (3 : Nat) -
                      (128 : Int)) *
                  (8 : Int)))]],
      AV.int IntKind.i64
        (IntKind.i64.wrap
          ((20 : Int) +
            (s_hd
                  (s_drop (s_fN (s_drop (8 : Nat) (s_drop (8 : Nat) (s_drop n.toNat rs))) + (4 : Nat))
                    (s_drop (8 : Nat) (s_drop (8 : Nat) (s_drop n.toNat rs))))).tmod
              (40 : Int)))],
  [])))) ∧
((∀ (rows'109 : List (List AV)),
((rows'109 =
  s_calls n (↑ps.length : Int)
    (s_drop (1 : Nat)
      (s_drop (1 : Nat)
        (s_drop (s_fN (s_drop (8 : Nat) (s_drop (8 : Nat) (s_drop n.toNat rs))) + (4 : Nat))
          (s_drop (8 : Nat) (s_drop (8 : Nat) (s_drop n.toNat rs))))))
    ((s_hd
            (s_drop (1 : Nat)
              (s_drop (s_fN (s_drop (8 : Nat) (s_drop (8 : Nat) (s_drop n.toNat rs))) + (4 : Nat))
                (s_drop (8 : Nat) (s_drop (8 : Nat) (s_drop n.toNat rs)))))).tmod
        (16 : Int)).toNat) →
chk ((0 : Nat) +
    ((s_hd
            (s_drop (1 : Nat)
              (s_drop (s_fN (s_drop (8 : Nat) (s_drop (8 : Nat) (s_drop n.toNat rs))) + (4 : Nat))
                (s_drop (8 : Nat) (s_drop (8 : Nat) (s_drop n.toNat rs)))))).tmod
        (16 : Int)).toNat ≤
  rows'109.length) (((Hyp (false = false ∧
  (List.take
        ((s_hd
                (s_drop (1 : Nat)
                  (s_drop (s_fN (s_drop (8 : Nat) (s_drop (8 : Nat) (s_drop n.toNat rs))) + (4 : Nat))
                    (s_drop (8 : Nat) (s_drop (8 : Nat) (s_drop n.toNat rs)))))).tmod
            (16 : Int)).toNat
        (List.drop (0 : Nat) rows'109)).length ≤
    (100000 : Nat))) ∧
(Q ((AV.agg
    [AV.row false [K.int IntKind.i64] (List.map (fun n => [AV.int IntKind.i64 n]) (s_on rs n.toNat)),
      AV.row false [K.int IntKind.i64]
        [[AV.int IntKind.i64
              (IntKind.i64.wrap (IntKind.i64.wrap (s_at (s_drop n.toNat rs) (0 : Nat) - (128 : Int)) * (1 : Int)))],
          [AV.int IntKind.i64
              (IntKind.i64.wrap (IntKind.i64.wrap (s_at (s_drop n.toNat rs) (1 : Nat) - (128 : Int)) * (1 : Int)))],
          [AV.int IntKind.i64
              (IntKind.i64.wrap (IntKind.i64.wrap (s_at (s_drop n.toNat rs) (2 : Nat) - (128 : Int)) * (1 : Int)))],
          [AV.int IntKind.i64
              (IntKind.i64.wrap (IntKind.i64.wrap (s_at (s_drop n.toNat rs) (3 : Nat) - (128 : Int)) * (1 : Int)))],
          [AV.int IntKind.i64
              (IntKind.i64.wrap (IntKind.i64.wrap (s_at (s_drop n.toNat rs) (4 : Nat) - (128 : Int)) * (1 : Int)))],
          [AV.int IntKind.i64
              (IntKind.i64.wrap (IntKind.i64.wrap (s_at (s_drop n.toNat rs) (5 : Nat) - (128 : Int)) * (1 : Int)))],
          [AV.int IntKind.i64
              (IntKind.i64.wrap (IntKind.i64.wrap (s_at (s_drop n.toNat rs) (6 : Nat) - (128 : Int)) * (1 : Int)))],
          [AV.int IntKind.i64
              (IntKind.i64.wrap (IntKind.i64.wrap (s_at (s_drop n.toNat rs) (7 : Nat) - (128 : Int)) * (1 : Int)))]],
      AV.row false [K.int IntKind.i64]
        [[AV.int IntKind.i64
              (IntKind.i64.wrap
                (IntKind.i64.wrap (s_at (s_drop (8 : Nat) (s_drop n.toNat rs)) (0 : Nat) - (128 : Int)) * (1 : Int)))],
          [AV.int IntKind.i64
              (IntKind.i64.wrap
                (IntKind.i64.wrap (s_at (s_drop (8 : Nat) (s_drop n.toNat rs)) (1 : Nat) - (128 : Int)) * (1 : Int)))],
          [AV.int IntKind.i64
              (IntKind.i64.wrap
                (IntKind.i64.wrap (s_at (s_drop (8 : Nat) (s_drop n.toNat rs)) (2 : Nat) - (128 : Int)) * (1 : Int)))],
          [AV.int IntKind.i64
              (IntKind.i64.wrap
                (IntKind.i64.wrap (s_at (s_drop (8 : Nat) (s_drop n.toNat rs)) (3 : Nat) - (128 : Int)) * (1 : Int)))],
          [AV.int IntKind.i64
              (IntKind.i64.wrap
                (IntKind.i64.wrap (s_at (s_drop (8 : Nat) (s_drop n.toNat rs)) (4 : Nat) - (128 : Int)) * (1 : Int)))],
          [AV.int IntKind.i64
              (IntKind.i64.wrap
                (IntKind.i64.wrap (s_at (s_drop (8 : Nat) (s_drop n.toNat rs)) (5 : Nat) - (128 : Int)) * (1 : Int)))],
          [AV.int IntKind.i64
              (IntKind.i64.wrap
                (IntKind.i64.wrap (s_at (s_drop (8 : Nat) (s_drop n.toNat rs)) (6 : Nat) - (128 : Int)) * (1 : Int)))],
          [AV.int IntKind.i64
              (IntKind.i64.wrap
                (IntKind.i64.wrap (s_at (s_drop (8 : Nat) (s_drop n.toNat rs)) (7 : Nat) - (128 : Int)) * (1 : Int)))]],
      AV.row false [K.int IntKind.i64, K.int IntKind.i64, K.int IntKind.i64, K.int IntKind.i64]
        (List.take
          ((s_hd
                  (s_drop (1 : Nat)
                    (s_drop (s_fN (s_drop (8 : Nat) (s_drop (8 : Nat) (s_drop n.toNat rs))) + (4 : Nat))
                      (s_drop (8 : Nat) (s_drop (8 : Nat) (s_drop n.toNat rs)))))).tmod
              (16 : Int)).toNat
          (List.drop (0 : Nat) rows'109)),
      AV.int IntKind.i64 ((s_at (s_drop (8 : Nat) (s_drop (8 : Nat) (s_drop n.toNat rs))) (0 : Nat)).tmod (3 : Int)),
      AV.int IntKind.i64
        (s_fat n ((s_at (s_drop (8 : Nat) (s_drop (8 : Nat) (s_drop n.toNat rs))) (0 : Nat)).tmod (3 : Int))
          (s_at (s_drop (8 : Nat) (s_drop (8 : Nat) (s_drop n.toNat rs))) (1 : Nat))),
      AV.int IntKind.i64 ((s_at (s_drop (8 : Nat) (s_drop (8 : Nat) (s_drop n.toNat rs))) (2 : Nat)).tmod (60 : Int)),
      AV.int IntKind.i64
        ((s_at (s_drop (8 : Nat) (s_drop (8 : Nat) (s_drop n.toNat rs))) (2 : Nat)).tmod (60 : Int) +
          (s_at (s_drop (8 : Nat) (s_drop (8 : Nat) (s_drop n.toNat rs))) (3 : Nat)).tmod (60 : Int)),
      AV.row false [K.int IntKind.i64, K.int IntKind.i64, K.str]
        (s_acts (s_drop (5 : Nat) (s_drop (8 : Nat) (s_drop (8 : Nat) (s_drop n.toNat rs))))
          (s_fA (s_drop (8 : Nat) (s_drop (8 : Nat) (s_drop n.toNat rs))))),
      AV.row false [K.int IntKind.i64]
        [[AV.int IntKind.i64
              (IntKind.i64.wrap
                (IntKind.i64.wrap
                    (s_at
                        (s_drop (s_fN (s_drop (8 : Nat) (s_drop (8 : Nat) (s_drop n.toNat rs))))
                          (s_drop (8 : Nat) (s_drop (8 : Nat) (s_drop n.toNat rs))))
                        (0 : Nat) -
                      (128 : Int)) *
                  (8 : Int)))],
          [AV.int IntKind.i64
              (IntKind.i64.wrap
                (IntKind.i64.wrap
                    (s_at
                        (s_drop (s_fN (s_drop (8 : Nat) (s_drop (8 : Nat) (s_drop n.toNat rs))))
                          (s_drop (8 : Nat) (s_drop (8 : Nat) (s_drop n.toNat rs))))
                        (1 : Nat) -
                      (128 : Int)) *
                  (8 : Int)))],
          [AV.int IntKind.i64
              (IntKind.i64.wrap
                (IntKind.i64.wrap
                    (s_at
                        (s_drop (s_fN (s_drop (8 : Nat) (s_drop (8 : Nat) (s_drop n.toNat rs))))
                          (s_drop (8 : Nat) (s_drop (8 : Nat) (s_drop n.toNat rs))))
                        (2 : Nat) -
                      (128 : Int)) *
                  (8 : Int)))],
          [AV.int IntKind.i64
              (IntKind.i64.wrap
                (IntKind.i64.wrap
                    (s_at
                        (s_drop (s_fN (s_drop (8 : Nat) (s_drop (8 : Nat) (s_drop n.toNat rs))))
                          (s_drop (8 : Nat) (s_drop (8 : Nat) (s_drop n.toNat rs))))
                        (3 : Nat) -
                      (128 : Int)) *
                  (8 : Int)))]],
      AV.int IntKind.i64
        (IntKind.i64.wrap
          ((20 : Int) +
            (s_hd
                  (s_drop (s_fN (s_drop (8 : Nat) (s_drop (8 : Nat) (s_drop n.toNat rs))) + (4 : Nat))
                    (s_drop (8 : Nat) (s_drop (8 : Nat) (s_drop n.toNat rs))))).tmod
              (40 : Int)))],
  []))))))))))))))))))))))))) := by kernel_rfl
end Go.Proofs.YthihinlamlamhaaE
/- A script of bytes: the specs hold. -/
namespace Go.Proofs.YthihinlamlamhaaE
open Go
set_option linter.unusedVariables false
set_option linter.unusedSimpArgs false
set_option maxRecDepth 100000

theorem ok20 : OkS Try.prog H0 20 sCloneB := by
  intro args h Q hq
  unfold sCloneB at hq
  split at hq
  · rename_i nl rs
    obtain ⟨⟨h0, h1⟩, hQ⟩ := hyp_iff.1 hq
    refine in_ok (S := S5) (U := 6) (k := 6) okS5 (to (nf20 ..) (br_intro (fun c => ?_) fun c => ?_))
    · have := h0 c; subst this; exact hQ true
    · rw [chk_iff, chk_iff, chk_iff, List.nil_append, Nat.zero_add, List.drop_zero, List.take_length]
      exact ⟨by omega, by omega, by omega, hQ false⟩
  · exact hq.elim
theorem ok27 : OkS Try.prog H0 27 sCloneC := by
  intro args h Q hq
  unfold sCloneC at hq
  split at hq
  · rename_i nl rs
    obtain ⟨⟨h0, h1⟩, hQ⟩ := hyp_iff.1 hq
    subst h0
    refine in_ok (S := S5) (U := 6) (k := 6) okS5 (to (nf27 ..) ?_)
    refine (br_f).2 ?_
    rw [chk_iff, chk_iff, chk_iff, List.nil_append, Nat.zero_add, List.drop_zero, List.take_length]
    exact ⟨by omega, by omega, by omega, hQ⟩
  · exact in_ok (S := S5) (U := 6) (k := 6) okS5 (to (nf27n ..) hq)
  · exact hq.elim
theorem okS6 : OkSp Try.prog H0 S6 := ⟨⟨ok20, ok27, ok19, ok10, okS5.fn⟩, trivial⟩
theorem okLCalls : OkLp Try.prog H0 11 13 lCalls := by
  refine okLp_of (U := 6) (k := 6) okS6 lCalls (fun vals _ => match vals with | [_, _, _, _, .int _ m, .int _ i] => (m - i).toNat | _ => 0) fun vals h Q hl => ?_
  unfold lCalls at hl
  split at hl
  case h_2 => exact hl.elim
  rename_i F m i n pi e g fi nl ps a0 r0 a1 r1 a2 r2 C k at_ fr to_ a3 r3 a4 r4 z rest
  unfold lCl at hl
  split at hl
  · rename_i nl2 rs
    obtain ⟨⟨h0, h1, h2, h3, h4, h5⟩, hq1, hq2⟩ := hyp_iff.1 hl
    subst h0
    refine to (nf11a ..) (br_intro (fun hc => ⟨.mk ⟨h3, by omega⟩, ?_⟩) fun hc => ?_)
    · have hc := of_decide_eq_true hc
      rw [show IntKind.i64.wrap ((0 : Int) + 1) = 1 by decide]
      refine ⟨by show (m - 1).toNat < (m - 0).toNat; omega, ⟨rfl, by omega, h2, h3, h4, h5, rfl⟩, fun rows' hr => hq2 rows' ?_⟩
      rw [hr, show m.toNat = (m - 1).toNat + 1 by omega]
      rfl
    · have hc := of_decide_eq_false hc
      exact hq1 (by omega)
  · rename_i j rows nl2 rs
    obtain ⟨⟨h0, h1, h2, h3, h4, h5, h6⟩, hq2⟩ := hl
    subst h0
    refine to (nf11b ..) (br_intro (fun hc => ⟨.mk ⟨h3, by omega⟩, ?_⟩) fun hc => ?_)
    · have hc := of_decide_eq_true hc
      rw [chk_iff, chk_iff, chk_iff]
      refine ⟨h6.symm, by omega, by omega, ?_⟩
      rw [wr (x := (j : Int) + 1) (by omega) (by omega), h6]
      refine ⟨by show (m - ((j : Int) + 1)).toNat < (m - (j : Int)).toNat; omega, ⟨by omega, by omega, h2, h3, h4, h5, by rw [List.length_append, h6]; rfl⟩, fun rows' hr => hq2 rows' ?_⟩
      rw [hr, show (m - (j : Int)).toNat = (m - ((j : Int) + 1)).toNat + 1 by omega, List.append_assoc]
      rfl
    · have hc := of_decide_eq_false hc
      have e : m = j := by omega
      subst e
      have := hq2 rows (by rw [Int.sub_self]; simp [s_calls])
      rwa [show ((j : Int)).toNat = j by omega] at this
  · exact hl.elim
theorem okS6L : OkSp Try.prog H0 S6L := ⟨okS6.fn, okLCalls, trivial⟩
theorem sg_lit8 (rs : List (List AV)) (k : Nat) (t : Int) : irow .i64 (s_sg (s_drop k rs) t 8) = [[.int .i64 (IntKind.i64.wrap (IntKind.i64.wrap (s_at rs (k + 0) - 128) * t))], [.int .i64 (IntKind.i64.wrap (IntKind.i64.wrap (s_at rs (k + 1) - 128) * t))],
    [.int .i64 (IntKind.i64.wrap (IntKind.i64.wrap (s_at rs (k + 2) - 128) * t))], [.int .i64 (IntKind.i64.wrap (IntKind.i64.wrap (s_at rs (k + 3) - 128) * t))], [.int .i64 (IntKind.i64.wrap (IntKind.i64.wrap (s_at rs (k + 4) - 128) * t))],
    [.int .i64 (IntKind.i64.wrap (IntKind.i64.wrap (s_at rs (k + 5) - 128) * t))], [.int .i64 (IntKind.i64.wrap (IntKind.i64.wrap (s_at rs (k + 6) - 128) * t))], [.int .i64 (IntKind.i64.wrap (IntKind.i64.wrap (s_at rs (k + 7) - 128) * t))]] := by
  have : ∀ i, s_at (s_drop k rs) i = s_at rs (k + i) := fun i => at_drop k i rs
  simp only [← this]
  rfl
theorem calls_len (n np : Int) : ∀ (k : Nat) (rs : List (List AV)), (s_calls n np rs k).length = k
  | 0, _ => rfl
  | k + 1, rs => by simp [s_calls, calls_len n np k]
theorem confOk_n {n pi e g fi : Int} {ps : List Int} (h : s_confOk n pi e g fi ps = true) : 6 ≤ n ∧ n ≤ 12 ∧ ps.length ≤ 3 := by
  simp only [s_confOk, Bool.and_eq_true, decide_eq_true_eq] at h
  obtain ⟨⟨⟨⟨⟨⟨⟨⟨⟨⟨⟨h1, h2⟩, _⟩, _⟩, _⟩, _⟩, _⟩, _⟩, _⟩, _⟩, h11⟩, _⟩ := h
  exact ⟨h1, h2, h11⟩
theorem ok11 : OkS Try.prog H0 11 sOfS := by
  intro args h Q hq
  unfold sOfS at hq
  split at hq
  · rename_i n pi e g fi nl ps nl2 rs
    obtain ⟨⟨hc, hb, hnl, hrl⟩, hQ⟩ := hyp_iff.1 hq
    clear hq
    obtain ⟨hn1, hn2, hpl⟩ := confOk_n hc
    have hpl : ps.length ≤ 3 := by simpa [ints] using hpl
    refine in_ok (S := S6L) (U := 6) (k := 6) okS6L (to (nf11 ..) ?_)
    unfold s_rowi s_cN s_rN at hQ
    simp only [sg_lit, sg_lit8] at hQ
    simp only [dd, hd0, at_drop]
    generalize hm : (s_at rs (n.toNat + 8 + 8 + (s_fN (s_drop (n.toNat + 8 + 8) rs) + 4) + 1 + 0)).tmod 16 = m at *
    have hm2 : 0 ≤ m ∧ m < 16 := by rw [← hm]; exact at_mod hb _ (by omega)
    have hr := at_mod hb (n.toNat + 8 + 8 + (s_fN (s_drop (n.toNat + 8 + 8) rs) + 4) + 0) (show (0 : Int) < 40 by omega)
    rw [wr (x := 20 + (s_at rs (n.toNat + 8 + 8 + (s_fN (s_drop (n.toNat + 8 + 8) rs) + 4) + 0)).tmod 40) (by omega) (by omega)]
    refine ⟨.mk hc, .mk ⟨hnl, hrl⟩, fun nl' => ⟨.mk (by omega), .mk (by omega), .mk (by omega), .mk ⟨hn1, hn2, bytes_drop _ hb⟩, .mk ⟨trivial, by omega, by omega, by omega, by omega, by omega⟩, fun h0 => ?_, fun rows' hr' => ?_⟩⟩
    · subst h0
      exact hQ true
    · have hl := calls_len n (ps.length : Int) m.toNat (s_drop (n.toNat + 8 + 8 + (s_fN (s_drop (n.toNat + 8 + 8) rs) + 4) + 1 + 1) rs)
      subst hr'
      rw [chk_iff, List.drop_zero, List.take_of_length_le (by omega)]
      exact ⟨by omega, .mk ⟨trivial, by omega⟩, hQ false⟩
  · exact hq.elim
theorem okS7 : OkSp Try.prog H0 S7 := ⟨⟨ok11, okS6.fn⟩, trivial⟩
end Go.Proofs.YthihinlamlamhaaE
/- ScriptBounds: its loops. -/
namespace Go.Proofs.YthihinlamlamhaaE
open Go
set_option linter.unusedVariables false

def s_p1 (rs : List (List AV)) : Prop := ∀ r ∈ rs, 0 ≤ (r.getD 0 AV.gone).toI ∧ (r.getD 0 AV.gone).toI ≤ 23
def s_p2 (n np : Int) (rs : List (List AV)) : Prop := ∀ r ∈ rs, (0 ≤ (r.getD 0 AV.gone).toI ∧ (r.getD 0 AV.gone).toI ≤ 59) ∧ (0 ≤ (r.getD 1 AV.gone).toI ∧ (r.getD 1 AV.gone).toI < n) ∧ (0 ≤ (r.getD 2 AV.gone).toI ∧ (r.getD 2 AV.gone).toI ≤ np) ∧ (0 ≤ (r.getD 3 AV.gone).toI ∧ (r.getD 3 AV.gone).toI ≤ 255)
def s_p3 (rs : List (List AV)) : Prop := ∀ r ∈ rs, (0 ≤ (r.getD 0 AV.gone).toI ∧ (r.getD 0 AV.gone).toI ≤ 6) ∧ (0 ≤ (r.getD 1 AV.gone).toI ∧ (r.getD 1 AV.gone).toI ≤ 255) ∧ (r.getD 2 AV.gone).toS.size ≤ 3
def lB1 : LW := fun vals h Q => match vals, h with
  | [.ptr 0 0, .ptr 1 0, .int .i64 i], [.box [.int .i64 n, .int .i64 pi, .int .i64 e, .int .i64 g, .int .i64 fi, .row nl [.int .i64] ps],
      .box [.row b0 [.int .i64] r0, .row b1 [.int .i64] r1, .row b2 [.int .i64] r2, .row b3 [.int .i64, .int .i64, .int .i64, .int .i64] r3, .int .i64 k, .int .i64 a, .int .i64 f, .int .i64 t, .row b4 [.int .i64, .int .i64, .str] r4, .row b5 [.int .i64] r5, .int .i64 z]] =>
    Hyp (0 ≤ i ∧ i ≤ r0.length ∧ r0.length ≤ 1000 ∧ s_p1 r0) ∧ Q (.exit 0) [.ptr 0 0, .ptr 1 0] [.box [.int .i64 n, .int .i64 pi, .int .i64 e, .int .i64 g, .int .i64 fi, .row nl [.int .i64] ps],
      .box [.row b0 [.int .i64] r0, .row b1 [.int .i64] r1, .row b2 [.int .i64] r2, .row b3 [.int .i64, .int .i64, .int .i64, .int .i64] r3, .int .i64 k, .int .i64 a, .int .i64 f, .int .i64 t, .row b4 [.int .i64, .int .i64, .str] r4, .row b5 [.int .i64] r5, .int .i64 z]]
  | _, _ => False
def lB2 : LW := fun vals h Q => match vals, h with
  | [.ptr 0 0, .ptr 1 0, .int .i64 i], [.box [.int .i64 n, .int .i64 pi, .int .i64 e, .int .i64 g, .int .i64 fi, .row nl [.int .i64] ps],
      .box [.row b0 [.int .i64] r0, .row b1 [.int .i64] r1, .row b2 [.int .i64] r2, .row b3 [.int .i64, .int .i64, .int .i64, .int .i64] r3, .int .i64 k, .int .i64 a, .int .i64 f, .int .i64 t, .row b4 [.int .i64, .int .i64, .str] r4, .row b5 [.int .i64] r5, .int .i64 z]] =>
    Hyp (0 ≤ i ∧ i ≤ r3.length ∧ r3.length ≤ 1000 ∧ s_p2 n ps.length r3) ∧ Q (.exit 2) [.ptr 0 0] [
      .box [.row b0 [.int .i64] r0, .row b1 [.int .i64] r1, .row b2 [.int .i64] r2, .row b3 [.int .i64, .int .i64, .int .i64, .int .i64] r3, .int .i64 k, .int .i64 a, .int .i64 f, .int .i64 t, .row b4 [.int .i64, .int .i64, .str] r4, .row b5 [.int .i64] r5, .int .i64 z]]
  | _, _ => False
def lB3 : LW := fun vals h Q => match vals, h with
  | [.ptr 0 0, .int .i64 i], [.box [.row b0 [.int .i64] r0, .row b1 [.int .i64] r1, .row b2 [.int .i64] r2, .row b3 [.int .i64, .int .i64, .int .i64, .int .i64] r3, .int .i64 k, .int .i64 a, .int .i64 f, .int .i64 t, .row b4 [.int .i64, .int .i64, .str] r4, .row b5 [.int .i64] r5, .int .i64 z]] =>
    Hyp (0 ≤ i ∧ i ≤ r4.length ∧ r4.length ≤ 1000 ∧ s_p3 r4) ∧ Q (.exit 4) [.ptr 0 0] [
      .box [.row b0 [.int .i64] r0, .row b1 [.int .i64] r1, .row b2 [.int .i64] r2, .row b3 [.int .i64, .int .i64, .int .i64, .int .i64] r3, .int .i64 k, .int .i64 a, .int .i64 f, .int .i64 t, .row b4 [.int .i64, .int .i64, .str] r4, .row b5 [.int .i64] r5, .int .i64 z]]
  | _, _ => False
def S7B : Sp := ⟨S7.fn, [(7, 10, lB1), (7, 15, lB2), (7, 21, lB3)]⟩
end Go.Proofs.YthihinlamlamhaaE
/- What path mode says of functions, printed by a program of this session; the kernel holds each. -/
namespace Go.Proofs.YthihinlamlamhaaE
open Go
set_option maxRecDepth 100000
set_option linter.unusedVariables false
theorem nf7a (i n pi e g fi k a f t z : Int) (nl b0 b1 b2 b3 b4 b5 : Bool) (ps r0 r1 r2 r3 r4 r5 : List (List AV)) (Q : Ex → List AV → List AObj → Prop) : lpBody Try.prog H0 S7 6 6 7 10 [.ptr 0 0, .ptr 1 0, .int .i64 i] [.box [.int .i64 n, .int .i64 pi, .int .i64 e, .int .i64 g, .int .i64 fi, .row nl [.int .i64] ps], .box [.row b0 [.int .i64] r0, .row b1 [.int .i64] r1, .row b2 [.int .i64] r2, .row b3 [.int .i64, .int .i64, .int .i64, .int .i64] r3, .int .i64 k, .int .i64 a, .int .i64 f, .int .i64 t, .row b4 [.int .i64, .int .i64, .str] r4, .row b5 [.int .i64] r5, .int .i64 z]] Q = (
br (decide (i < (↑r0.length : Int)))
 (chk ((0 : Int) ≤ i ∧ i < (↑r0.length : Int)) (br (decide (((r0.getD i.toNat []).getD (0 : Nat) AV.gone).toI < (0 : Int)))
  (Q (Ex.ret) ([AV.bool false]) ([]))
  (chk ((0 : Int) ≤ i ∧ i < (↑r0.length : Int)) (br (decide (((r0.getD i.toNat []).getD (0 : Nat) AV.gone).toI > (23 : Int)))
   (Q (Ex.ret) ([AV.bool false]) ([]))
   (Q (Ex.nrm) ([AV.ptr (0 : Nat) (0 : Nat), AV.ptr (1 : Nat) (0 : Nat), AV.int IntKind.i64 (IntKind.i64.wrap (i + (1 : Int)))]) ([AObj.box
    [AV.int IntKind.i64 n, AV.int IntKind.i64 pi, AV.int IntKind.i64 e, AV.int IntKind.i64 g, AV.int IntKind.i64 fi,
      AV.row nl [K.int IntKind.i64] ps],
  AObj.box
    [AV.row b0 [K.int IntKind.i64] r0, AV.row b1 [K.int IntKind.i64] r1, AV.row b2 [K.int IntKind.i64] r2,
      AV.row b3 [K.int IntKind.i64, K.int IntKind.i64, K.int IntKind.i64, K.int IntKind.i64] r3, AV.int IntKind.i64 k,
      AV.int IntKind.i64 a, AV.int IntKind.i64 f, AV.int IntKind.i64 t,
      AV.row b4 [K.int IntKind.i64, K.int IntKind.i64, K.str] r4, AV.row b5 [K.int IntKind.i64] r5,
      AV.int IntKind.i64 z]]))))))
 (Q (Ex.exit (0 : Nat)) ([AV.ptr (0 : Nat) (0 : Nat), AV.ptr (1 : Nat) (0 : Nat)]) ([AObj.box
    [AV.int IntKind.i64 n, AV.int IntKind.i64 pi, AV.int IntKind.i64 e, AV.int IntKind.i64 g, AV.int IntKind.i64 fi,
      AV.row nl [K.int IntKind.i64] ps],
  AObj.box
    [AV.row b0 [K.int IntKind.i64] r0, AV.row b1 [K.int IntKind.i64] r1, AV.row b2 [K.int IntKind.i64] r2,
      AV.row b3 [K.int IntKind.i64, K.int IntKind.i64, K.int IntKind.i64, K.int IntKind.i64] r3, AV.int IntKind.i64 k,
      AV.int IntKind.i64 a, AV.int IntKind.i64 f, AV.int IntKind.i64 t,
      AV.row b4 [K.int IntKind.i64, K.int IntKind.i64, K.str] r4, AV.row b5 [K.int IntKind.i64] r5,
      AV.int IntKind.i64 z]]))) := by kernel_rfl
theorem nf7b (i n pi e g fi k a f t z : Int) (nl b0 b1 b2 b3 b4 b5 : Bool) (ps r0 r1 r2 r3 r4 r5 : List (List AV)) (Q : Ex → List AV → List AObj → Prop) : lpBody Try.prog H0 S7 6 6 7 15 [.ptr 0 0, .ptr 1 0, .int .i64 i] [.box [.int .i64 n, .int .i64 pi, .int .i64 e, .int .i64 g, .int .i64 fi, .row nl [.int .i64] ps], .box [.row b0 [.int .i64] r0, .row b1 [.int .i64] r1, .row b2 [.int .i64] r2, .row b3 [.int .i64, .int .i64, .int .i64, .int .i64] r3, .int .i64 k, .int .i64 a, .int .i64 f, .int .i64 t, .row b4 [.int .i64, .int .i64, .str] r4, .row b5 [.int .i64] r5, .int .i64 z]] Q = (
br (decide (i < (↑r3.length : Int)))
 (chk ((0 : Int) ≤ i ∧ i < (↑r3.length : Int)) (br (decide (((r3.getD i.toNat []).getD (0 : Nat) AV.gone).toI < (0 : Int)))
  (Q (Ex.ret) ([AV.bool false]) ([]))
  (br (decide (((r3.getD i.toNat []).getD (0 : Nat) AV.gone).toI > (59 : Int)))
   (Q (Ex.ret) ([AV.bool false]) ([]))
   (br (decide (((r3.getD i.toNat []).getD (1 : Nat) AV.gone).toI < (0 : Int)))
    (Q (Ex.ret) ([AV.bool false]) ([]))
    (br (decide (((r3.getD i.toNat []).getD (1 : Nat) AV.gone).toI ≥ n))
     (Q (Ex.ret) ([AV.bool false]) ([]))
     (br (decide (((r3.getD i.toNat []).getD (2 : Nat) AV.gone).toI < (0 : Int)))
      (Q (Ex.ret) ([AV.bool false]) ([]))
      (br (decide (((r3.getD i.toNat []).getD (2 : Nat) AV.gone).toI > (↑ps.length : Int)))
       (Q (Ex.ret) ([AV.bool false]) ([]))
       (br (decide (((r3.getD i.toNat []).getD (3 : Nat) AV.gone).toI < (0 : Int)))
        (Q (Ex.ret) ([AV.bool false]) ([]))
        (br (decide (((r3.getD i.toNat []).getD (3 : Nat) AV.gone).toI > (255 : Int)))
         (Q (Ex.ret) ([AV.bool false]) ([]))
         (Q (Ex.nrm) ([AV.ptr (0 : Nat) (0 : Nat), AV.ptr (1 : Nat) (0 : Nat), AV.int IntKind.i64 (IntKind.i64.wrap (i + (1 : Int)))]) ([AObj.box
    [AV.int IntKind.i64 n, AV.int IntKind.i64 pi, AV.int IntKind.i64 e, AV.int IntKind.i64 g, AV.int IntKind.i64 fi,
      AV.row nl [K.int IntKind.i64] ps],
  AObj.box
    [AV.row b0 [K.int IntKind.i64] r0, AV.row b1 [K.int IntKind.i64] r1, AV.row b2 [K.int IntKind.i64] r2,
      AV.row b3 [K.int IntKind.i64, K.int IntKind.i64, K.int IntKind.i64, K.int IntKind.i64] r3, AV.int IntKind.i64 k,
      AV.int IntKind.i64 a, AV.int IntKind.i64 f, AV.int IntKind.i64 t,
      AV.row b4 [K.int IntKind.i64, K.int IntKind.i64, K.str] r4, AV.row b5 [K.int IntKind.i64] r5,
      AV.int IntKind.i64 z]])))))))))))
 (Q (Ex.exit (2 : Nat)) ([AV.ptr (0 : Nat) (0 : Nat)]) ([AObj.box
    [AV.row b0 [K.int IntKind.i64] r0, AV.row b1 [K.int IntKind.i64] r1, AV.row b2 [K.int IntKind.i64] r2,
      AV.row b3 [K.int IntKind.i64, K.int IntKind.i64, K.int IntKind.i64, K.int IntKind.i64] r3, AV.int IntKind.i64 k,
      AV.int IntKind.i64 a, AV.int IntKind.i64 f, AV.int IntKind.i64 t,
      AV.row b4 [K.int IntKind.i64, K.int IntKind.i64, K.str] r4, AV.row b5 [K.int IntKind.i64] r5,
      AV.int IntKind.i64 z]]))) := by kernel_rfl
theorem nf7c (i k a f t z : Int) (b0 b1 b2 b3 b4 b5 : Bool) (r0 r1 r2 r3 r4 r5 : List (List AV)) (Q : Ex → List AV → List AObj → Prop) : lpBody Try.prog H0 S7 6 6 7 21 [.ptr 0 0, .int .i64 i] [.box [.row b0 [.int .i64] r0, .row b1 [.int .i64] r1, .row b2 [.int .i64] r2, .row b3 [.int .i64, .int .i64, .int .i64, .int .i64] r3, .int .i64 k, .int .i64 a, .int .i64 f, .int .i64 t, .row b4 [.int .i64, .int .i64, .str] r4, .row b5 [.int .i64] r5, .int .i64 z]] Q = (
br (decide (i < (↑r4.length : Int)))
 (chk ((0 : Int) ≤ i ∧ i < (↑r4.length : Int)) (br (decide (((r4.getD i.toNat []).getD (0 : Nat) AV.gone).toI < (0 : Int)))
  (Q (Ex.ret) ([AV.bool false]) ([]))
  (br (decide (((r4.getD i.toNat []).getD (0 : Nat) AV.gone).toI > (6 : Int)))
   (Q (Ex.ret) ([AV.bool false]) ([]))
   (br (decide (((r4.getD i.toNat []).getD (1 : Nat) AV.gone).toI < (0 : Int)))
    (Q (Ex.ret) ([AV.bool false]) ([]))
    (br (decide (((r4.getD i.toNat []).getD (1 : Nat) AV.gone).toI > (255 : Int)))
     (Q (Ex.ret) ([AV.bool false]) ([]))
     (br (decide ((↑((r4.getD i.toNat []).getD (2 : Nat) AV.gone).toS.size : Int) > (3 : Int)))
      (Q (Ex.ret) ([AV.bool false]) ([]))
      (Q (Ex.nrm) ([AV.ptr (0 : Nat) (0 : Nat), AV.int IntKind.i64 (IntKind.i64.wrap (i + (1 : Int)))]) ([AObj.box
    [AV.row b0 [K.int IntKind.i64] r0, AV.row b1 [K.int IntKind.i64] r1, AV.row b2 [K.int IntKind.i64] r2,
      AV.row b3 [K.int IntKind.i64, K.int IntKind.i64, K.int IntKind.i64, K.int IntKind.i64] r3, AV.int IntKind.i64 k,
      AV.int IntKind.i64 a, AV.int IntKind.i64 f, AV.int IntKind.i64 t,
      AV.row b4 [K.int IntKind.i64, K.int IntKind.i64, K.str] r4, AV.row b5 [K.int IntKind.i64] r5,
      AV.int IntKind.i64 z]]))))))))
 (Q (Ex.exit (4 : Nat)) ([AV.ptr (0 : Nat) (0 : Nat)]) ([AObj.box
    [AV.row b0 [K.int IntKind.i64] r0, AV.row b1 [K.int IntKind.i64] r1, AV.row b2 [K.int IntKind.i64] r2,
      AV.row b3 [K.int IntKind.i64, K.int IntKind.i64, K.int IntKind.i64, K.int IntKind.i64] r3, AV.int IntKind.i64 k,
      AV.int IntKind.i64 a, AV.int IntKind.i64 f, AV.int IntKind.i64 t,
      AV.row b4 [K.int IntKind.i64, K.int IntKind.i64, K.str] r4, AV.row b5 [K.int IntKind.i64] r5,
      AV.int IntKind.i64 z]]))) := by kernel_rfl
theorem nf7 (n pi e g fi : Int) (nl : Bool) (ps : List (List AV)) (nl2 : Bool) (rs : List (List AV)) (Q : AV × List AObj → Prop) : inlW Try.prog H0 S7B 6 (InO Try.prog H0 S7B 6 6) 7 [cf n pi e g fi nl ps, .row nl2 [.int .u8] rs] [] Q = (
br (decide ((↑rs.length : Int) > (500 : Int)))
 (Q ((AV.bool true, [])))
 ((∀ (n'101 : Int),
 (∀ (pi'102 : Int),
 (∀ (e'103 : Int),
 (∀ (g'104 : Int),
 (∀ (fi'105 : Int),
 (∀ (nl'106 : Bool),
 (∀ (ps107 : List Int),
 ((s_made n'101 pi'102 e'103 g'104 fi'105 ps107) →
 ((Hyp (s_confOk n'101 pi'102 e'103 g'104 fi'105
      (List.map (fun r => (r.getD (0 : Nat) AV.gone).toI) (List.map (fun n => [AV.int IntKind.i64 n]) ps107)) =
    true ∧
  s_bytes rs ∧ (nl2 = true → rs = []) ∧ rs.length ≤ (100000 : Nat))) ∧
 ((∀ (nl'110 : Bool),
 br ((↑(s_rowi (s_on rs n'101.toNat)).length : Int) != n'101)
  (Q ((AV.bool false, [])))
  (br (decide ((20 : Int) + (s_at rs (s_rN n'101 rs + (0 : Nat))).tmod (40 : Int) < (20 : Int)))
   (Q ((AV.bool false, [])))
   (br (decide ((20 : Int) + (s_at rs (s_rN n'101 rs + (0 : Nat))).tmod (40 : Int) > (59 : Int)))
    (Q ((AV.bool false, [])))
    (br (decide
  ((↑(s_calls n'101 (↑(List.map (fun n => [AV.int IntKind.i64 n]) ps107).length : Int)
            (s_drop (s_rN n'101 rs + (1 : Nat) + (1 : Nat)) rs) (s_cN n'101 rs)).length :
      Int) >
    (15 : Int)))
     (Q ((AV.bool false, [])))
     (br (decide
  ((↑(s_acts (s_drop (n'101.toNat + (8 : Nat) + (8 : Nat) + (5 : Nat)) rs)
            (s_fA (s_drop (n'101.toNat + (8 : Nat) + (8 : Nat)) rs))).length :
      Int) >
    (7 : Int)))
      (Q ((AV.bool false, [])))
      (br (decide ((s_at rs (n'101.toNat + (8 : Nat) + (8 : Nat) + (2 : Nat))).tmod (60 : Int) > (59 : Int)))
       (Q ((AV.bool false, [])))
       (br (decide
  ((s_at rs (n'101.toNat + (8 : Nat) + (8 : Nat) + (2 : Nat))).tmod (60 : Int) +
      (s_at rs (n'101.toNat + (8 : Nat) + (8 : Nat) + (3 : Nat))).tmod (60 : Int) <
    (s_at rs (n'101.toNat + (8 : Nat) + (8 : Nat) + (2 : Nat))).tmod (60 : Int)))
        (Q ((AV.bool false, [])))
        (br (decide
  ((s_at rs (n'101.toNat + (8 : Nat) + (8 : Nat) + (2 : Nat))).tmod (60 : Int) +
      (s_at rs (n'101.toNat + (8 : Nat) + (8 : Nat) + (3 : Nat))).tmod (60 : Int) >
    IntKind.i64.wrap ((s_at rs (n'101.toNat + (8 : Nat) + (8 : Nat) + (2 : Nat))).tmod (60 : Int) + (59 : Int))))
         (Q ((AV.bool false, [])))
         (((Hyp ((0 : Int) ≤ (0 : Int) ∧
  (0 : Int) ≤ (↑(s_rowi (s_on rs n'101.toNat)).length : Int) ∧
    (s_rowi (s_on rs n'101.toNat)).length ≤ (1000 : Nat) ∧ s_p1 (s_rowi (s_on rs n'101.toNat)))) ∧
         (((Hyp ((0 : Int) ≤ (0 : Int) ∧
  (0 : Int) ≤
      (↑(s_calls n'101 (↑(List.map (fun n => [AV.int IntKind.i64 n]) ps107).length : Int)
              (s_drop (s_rN n'101 rs + (1 : Nat) + (1 : Nat)) rs) (s_cN n'101 rs)).length :
        Int) ∧
    (s_calls n'101 (↑(List.map (fun n => [AV.int IntKind.i64 n]) ps107).length : Int)
            (s_drop (s_rN n'101 rs + (1 : Nat) + (1 : Nat)) rs) (s_cN n'101 rs)).length ≤
        (1000 : Nat) ∧
      s_p2 n'101 (↑(List.map (fun n => [AV.int IntKind.i64 n]) ps107).length : Int)
        (s_calls n'101 (↑(List.map (fun n => [AV.int IntKind.i64 n]) ps107).length : Int)
          (s_drop (s_rN n'101 rs + (1 : Nat) + (1 : Nat)) rs) (s_cN n'101 rs)))) ∧
         (((Hyp ((0 : Int) ≤ (0 : Int) ∧
  (0 : Int) ≤
      (↑(s_acts (s_drop (n'101.toNat + (8 : Nat) + (8 : Nat) + (5 : Nat)) rs)
              (s_fA (s_drop (n'101.toNat + (8 : Nat) + (8 : Nat)) rs))).length :
        Int) ∧
    (s_acts (s_drop (n'101.toNat + (8 : Nat) + (8 : Nat) + (5 : Nat)) rs)
            (s_fA (s_drop (n'101.toNat + (8 : Nat) + (8 : Nat)) rs))).length ≤
        (1000 : Nat) ∧
      s_p3
        (s_acts (s_drop (n'101.toNat + (8 : Nat) + (8 : Nat) + (5 : Nat)) rs)
          (s_fA (s_drop (n'101.toNat + (8 : Nat) + (8 : Nat)) rs))))) ∧
         (br (decide ((s_at rs (n'101.toNat + (8 : Nat) + (8 : Nat) + (0 : Nat))).tmod (3 : Int) ≥ (0 : Int)))
          (Q ((AV.bool (decide ((s_at rs (n'101.toNat + (8 : Nat) + (8 : Nat) + (0 : Nat))).tmod (3 : Int) ≤ (2 : Int))), [])))
          (Q ((AV.bool false, [])))))))))))))))))))))))))))))) := by kernel_rfl
end Go.Proofs.YthihinlamlamhaaE
/- ScriptBounds. -/
namespace Go.Proofs.YthihinlamlamhaaE
open Go
set_option linter.unusedVariables false
set_option linter.unusedSimpArgs false
set_option maxRecDepth 100000

theorem get_mem {rs : List (List AV)} {i : Nat} (hi : i < rs.length) : rs.getD i [] ∈ rs := by
  rw [List.getD_eq_getElem?_getD, List.getElem?_eq_getElem hi]; simp
theorem okLB1 : OkLp Try.prog H0 7 10 lB1 := by
  refine okLp_of (U := 6) (k := 6) okS7 lB1 (fun vals h => match vals, h with | [_, _, .int _ i], [_, .box (.row _ _ r0 :: _)] => ((r0.length : Int) - i).toNat | _, _ => 0) fun vals h Q hl => ?_
  unfold lB1 at hl
  split at hl
  · rename_i i n pi e g fi nl ps b0 r0 b1 r1 b2 r2 b3 r3 k a f t b4 r4 b5 r5 z
    obtain ⟨⟨h0, h1, h2, h3⟩, hq⟩ := hyp_iff.1 hl
    refine to (nf7a ..) (br_intro (fun hc => ?_) fun hc => hq)
    have hc := of_decide_eq_true hc
    have p := h3 _ (get_mem (i := i.toNat) (by omega))
    rw [chk_iff]
    refine ⟨by omega, br_intro (fun c => ?_) fun c => ?_⟩
    · have := of_decide_eq_true c; omega
    rw [chk_iff]
    refine ⟨by omega, br_intro (fun c => ?_) fun c => ?_⟩
    · have := of_decide_eq_true c; omega
    rw [wr (x := i + 1) (by omega) (by omega)]
    exact ⟨by show ((r0.length : Int) - (i + 1)).toNat < ((r0.length : Int) - i).toNat; omega, .mk ⟨by omega, by omega, h2, h3⟩, hq⟩
  · exact hl.elim
theorem okLB2 : OkLp Try.prog H0 7 15 lB2 := by
  refine okLp_of (U := 6) (k := 6) okS7 lB2 (fun vals h => match vals, h with | [_, _, .int _ i], [_, .box [_, _, _, .row _ _ r3, _, _, _, _, _, _, _]] => ((r3.length : Int) - i).toNat | _, _ => 0) fun vals h Q hl => ?_
  unfold lB2 at hl
  split at hl
  · rename_i i n pi e g fi nl ps b0 r0 b1 r1 b2 r2 b3 r3 k a f t b4 r4 b5 r5 z
    obtain ⟨⟨h0, h1, h2, h3⟩, hq⟩ := hyp_iff.1 hl
    refine to (nf7b ..) (br_intro (fun hc => ?_) fun hc => hq)
    have hc := of_decide_eq_true hc
    obtain ⟨p1, p2, p3, p4⟩ := h3 _ (get_mem (i := i.toNat) (by omega))
    rw [chk_iff]
    refine ⟨by omega, ?_⟩
    refine br_intro (fun c => ?_) fun c => br_intro (fun c => ?_) fun c => br_intro (fun c => ?_) fun c => br_intro (fun c => ?_) fun c => br_intro (fun c => ?_) fun c => br_intro (fun c => ?_) fun c => br_intro (fun c => ?_) fun c => br_intro (fun c => ?_) fun c => ?_
    · have := of_decide_eq_true c; omega
    · have := of_decide_eq_true c; omega
    · have := of_decide_eq_true c; omega
    · have := of_decide_eq_true c; omega
    · have := of_decide_eq_true c; omega
    · have := of_decide_eq_true c; omega
    · have := of_decide_eq_true c; omega
    · have := of_decide_eq_true c; omega
    rw [wr (x := i + 1) (by omega) (by omega)]
    exact ⟨by show ((r3.length : Int) - (i + 1)).toNat < ((r3.length : Int) - i).toNat; omega, .mk ⟨by omega, by omega, h2, h3⟩, hq⟩
  · exact hl.elim
theorem okLB3 : OkLp Try.prog H0 7 21 lB3 := by
  refine okLp_of (U := 6) (k := 6) okS7 lB3 (fun vals h => match vals, h with | [_, .int _ i], [.box [_, _, _, _, _, _, _, _, .row _ _ r4, _, _]] => ((r4.length : Int) - i).toNat | _, _ => 0) fun vals h Q hl => ?_
  unfold lB3 at hl
  split at hl
  · rename_i i b0 r0 b1 r1 b2 r2 b3 r3 k a f t b4 r4 b5 r5 z
    obtain ⟨⟨h0, h1, h2, h3⟩, hq⟩ := hyp_iff.1 hl
    refine to (nf7c ..) (br_intro (fun hc => ?_) fun hc => hq)
    have hc := of_decide_eq_true hc
    obtain ⟨p1, p2, p3⟩ := h3 _ (get_mem (i := i.toNat) (by omega))
    rw [chk_iff]
    refine ⟨by omega, ?_⟩
    refine br_intro (fun c => ?_) fun c => br_intro (fun c => ?_) fun c => br_intro (fun c => ?_) fun c => br_intro (fun c => ?_) fun c => br_intro (fun c => ?_) fun c => ?_
    · have := of_decide_eq_true c; omega
    · have := of_decide_eq_true c; omega
    · have := of_decide_eq_true c; omega
    · have := of_decide_eq_true c; omega
    · have := of_decide_eq_true c; omega
    rw [wr (x := i + 1) (by omega) (by omega)]
    exact ⟨by show ((r4.length : Int) - (i + 1)).toNat < ((r4.length : Int) - i).toNat; omega, .mk ⟨by omega, by omega, h2, h3⟩, hq⟩
  · exact hl.elim
theorem okS7B : OkSp Try.prog H0 S7B := ⟨okS7.fn, okLB1, okLB2, okLB3, trivial⟩
theorem ints_irow (k : IntKind) (ps : List Int) : ints (irow k ps) = ps := by
  induction ps with
  | nil => rfl
  | cons a l ih =>
    have : ints (irow k (a :: l)) = a :: ints (irow k l) := rfl
    rw [this, ih]
theorem cfMade_ok {n pi e g fi : Int} {ps : List Int} (h : s_made n pi e g fi ps) : s_confOk n pi e g fi (ints (irow .i64 ps)) = true := by
  obtain ⟨h1, h2, h3, h4, h5, h6, h7, h8, h9, h10, h11, h12⟩ := h
  rw [ints_irow]
  simp only [s_confOk, Bool.and_eq_true, decide_eq_true_eq, List.all_eq_true]
  exact ⟨⟨⟨⟨⟨⟨⟨⟨⟨⟨⟨h1, h2⟩, h3⟩, by omega⟩, h5⟩, by omega⟩, h7⟩, h8⟩, h9⟩, by omega⟩, h11⟩, h12⟩
theorem text_size (rs : List (List AV)) : ∀ (k p : Nat) (s : ByteArray), (s_text rs k p s).size = s.size + k
  | 0, _, _ => rfl
  | k + 1, p, s => by
    simp only [s_text]
    rw [text_size rs k, ByteArray.size_append]
    have : (if (s_at rs p).tmod 3 = 0 then ⟨#[48]⟩ else if (s_at rs p).tmod 3 = 1 then ⟨#[49]⟩ else ⟨#[35]⟩ : ByteArray).size = 1 := by
      split
      · rfl
      · split <;> rfl
    omega
theorem p1_on {rs : List (List AV)} (hb : s_bytes rs) (n : Nat) : s_p1 (s_rowi (s_on rs n)) := by
  intro r hr
  unfold s_rowi irow s_on at hr
  rw [List.map_map] at hr
  obtain ⟨i, _, rfl⟩ := List.mem_map.1 hr
  have := at_mod hb i (show (0 : Int) < 24 by omega)
  show 0 ≤ (s_at rs i).tmod 24 ∧ (s_at rs i).tmod 24 ≤ 23
  omega
theorem p2_calls {n np : Int} (hn : 0 < n) (hp : 0 ≤ np) : ∀ (k : Nat) {rs : List (List AV)}, s_bytes rs → s_p2 n np (s_calls n np rs k)
  | 0, rs, _ => fun r hr => by simp [s_calls] at hr
  | k + 1, rs, hb => fun r hr => by
    simp only [s_calls, List.mem_cons] at hr
    rcases hr with rfl | hr
    · have a1 := at_mod hb 0 (show (0 : Int) < 60 by omega)
      have a2 := at_mod hb 1 hn
      have a3 := at_mod hb 2 (show (0 : Int) < np + 1 by omega)
      have a4 := at_le hb 3
      show (0 ≤ (s_at rs 0).tmod 60 ∧ (s_at rs 0).tmod 60 ≤ 59) ∧ (0 ≤ (s_at rs 1).tmod n ∧ (s_at rs 1).tmod n < n) ∧ (0 ≤ (s_at rs 2).tmod (np + 1) ∧ (s_at rs 2).tmod (np + 1) ≤ np) ∧ (0 ≤ s_at rs 3 ∧ s_at rs 3 ≤ 255)
      omega
    · exact p2_calls hn hp k (bytes_drop 4 hb) r hr
theorem p3_acts : ∀ (k : Nat) {rs : List (List AV)}, s_bytes rs → s_p3 (s_acts rs k)
  | 0, rs, _ => fun r hr => by simp [s_acts] at hr
  | k + 1, rs, hb => fun r hr => by
    simp only [s_acts, List.mem_cons] at hr
    rcases hr with rfl | hr
    · have a1 := at_mod hb 0 (show (0 : Int) < 7 by omega)
      have a2 := at_le hb 1
      have a3 := at_mod hb 2 (show (0 : Int) < 4 by omega)
      show (0 ≤ (s_at rs 0).tmod 7 ∧ (s_at rs 0).tmod 7 ≤ 6) ∧ (0 ≤ s_at rs 1 ∧ s_at rs 1 ≤ 255) ∧ (s_text rs ((s_at rs 2).tmod 4).toNat 3 ⟨#[]⟩).size ≤ 3
      rw [text_size]
      refine ⟨by omega, by omega, ?_⟩
      show 0 + _ ≤ 3
      omega
    · exact p3_acts k (bytes_drop _ hb) r hr
theorem bounds_holds (n pi e g fi : Int) (nl : Bool) (ps : List (List AV)) (nl2 : Bool) (rs : List (List AV)) (hb : s_bytes rs) (hn0 : nl2 = true → rs = []) :
    inlW Try.prog H0 S7B 6 (InO Try.prog H0 S7B 6 6) 7 [cf n pi e g fi nl ps, .row nl2 [.int .u8] rs] [] (fun r => r.1 = .bool true) := by
  refine to (nf7 ..) (br_intro (fun _ => rfl) fun hl => ?_)
  have hl := of_decide_eq_false hl
  intro n' pi' e' g' fi' nl' qs hm
  have hc : s_confOk n' pi' e' g' fi' (List.map (fun r => (r.getD (0 : Nat) AV.gone).toI) (List.map (fun n => [AV.int IntKind.i64 n]) qs)) = true := cfMade_ok hm
  have hn := hm.1
  have hn2 := hm.2.1
  have hq := hm.2.2.2.2.2.2.2.2.2.2.1
  clear hm
  refine ⟨.mk ⟨hc, hb, hn0, by omega⟩, fun nl'' => ?_⟩
  have o1 : (s_rowi (s_on rs n'.toNat)).length = n'.toNat := by unfold s_rowi; rw [irow_len, on_len]
  have o2 := at_mod hb (s_rN n' rs + 0) (show (0 : Int) < 40 by omega)
  have o3 := at_mod hb (n'.toNat + 8 + 8 + 2) (show (0 : Int) < 60 by omega)
  have o4 := at_mod hb (n'.toNat + 8 + 8 + 3) (show (0 : Int) < 60 by omega)
  have o5 := at_mod hb (n'.toNat + 8 + 8 + 0) (show (0 : Int) < 3 by omega)
  have o6 : s_cN n' rs ≤ 15 := by
    unfold s_cN
    have := at_mod hb (s_rN n' rs + 1 + 0) (show (0 : Int) < 16 by omega)
    omega
  have o7 : s_fA (s_drop (n'.toNat + 8 + 8) rs) ≤ 7 := by
    unfold s_fA
    have := at_mod (bytes_drop (n'.toNat + 8 + 8) hb) 4 (show (0 : Int) < 8 by omega)
    omega
  have hlen : (List.map (fun n => [AV.int IntKind.i64 n]) qs).length = qs.length := by simp
  have p1 := p1_on hb n'.toNat
  have p2 := p2_calls (n := n') (np := (qs.length : Int)) (by omega) (by omega) (s_cN n' rs) (bytes_drop (s_rN n' rs + 1 + 1) hb)
  have p3 := p3_acts (s_fA (s_drop (n'.toNat + 8 + 8) rs)) (bytes_drop (n'.toNat + 8 + 8 + 5) hb)
  rw [hlen, calls_len, acts_len, o1, wr (x := (s_at rs (n'.toNat + 8 + 8 + 2)).tmod 60 + 59) (by omega) (by omega)]
  refine br_intro (fun c => ?_) fun c => br_intro (fun c => ?_) fun c => br_intro (fun c => ?_) fun c => br_intro (fun c => ?_) fun c => br_intro (fun c => ?_) fun c => br_intro (fun c => ?_) fun c => br_intro (fun c => ?_) fun c => br_intro (fun c => ?_) fun c => ?_
  · rw [bne_iff_ne] at c; omega
  · have := of_decide_eq_true c; omega
  · have := of_decide_eq_true c; omega
  · have := of_decide_eq_true c; omega
  · have := of_decide_eq_true c; omega
  · have := of_decide_eq_true c; omega
  · have := of_decide_eq_true c; omega
  · have := of_decide_eq_true c; omega
  refine ⟨.mk ⟨by omega, by omega, by omega, p1⟩, .mk ⟨by omega, by omega, by omega, p2⟩, .mk ⟨by omega, by omega, by omega, p3⟩, br_intro (fun _ => ?_) fun c => ?_⟩
  · rw [decide_eq_true (by omega)]
  · have := of_decide_eq_false c; omega
end Go.Proofs.YthihinlamlamhaaE
