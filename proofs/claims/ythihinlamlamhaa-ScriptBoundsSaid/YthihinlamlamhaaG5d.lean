/- A script of bytes: the whole. -/
import Derived.Test.YthihinlamlamhaaG4p
namespace Go.Proofs.YthihinlamlamhaaE
open Go
set_option linter.unusedVariables false

def s_rowi (l : List Int) : List (List AV) := irow .i64 l
def sCloneB : SW := fun args h Q => match args, h with
  | [.row nl [.int .u8] rs], [] => Hyp ((nl = true → rs = []) ∧ rs.length ≤ 100000) ∧ ∀ nl' : Bool, Q (.row nl' [.int .u8] rs, [])
  | _, _ => False
abbrev shC4 : List K := [.int .i64, .int .i64, .int .i64, .int .i64]
def lCl (i m n np k at_ fr to_ z : Int) (a0 a1 a2 a3 a4 : Bool) (r0 r1 r2 r3 r4 : List (List AV)) (Q : Ex → List AV → List AObj → Prop) (F : AV) (C : AV) (rest : List AObj) : Prop := match F, C, rest with
  | .fn (.func 26) [.ptr 3 0] [], .nils, [.box [.row nl2 [.int .u8] rs]] => Hyp (i = 0 ∧ 0 ≤ m ∧ m ≤ 100 ∧ n ≠ 0 ∧ 0 ≤ np ∧ np ≤ 100) ∧
      ((m = 0 → Q (.exit 0) [.ptr 0 0, .ptr 1 0] [.box [.nils, .nils, .nils, .nils, .int .i64 0, .int .i64 0, .int .i64 0, .int .i64 0, .nils, .nils, .int .i64 0],
        .box [.row a0 [.int .i64] r0, .row a1 [.int .i64] r1, .row a2 [.int .i64] r2, .nils, .int .i64 k, .int .i64 at_, .int .i64 fr, .int .i64 to_, .row a3 [.int .i64, .int .i64, .str] r3, .row a4 [.int .i64] r4, .int .i64 z]]) ∧
       (∀ rows', rows' = s_calls n np rs m.toNat → Q (.exit 0) [.ptr 0 0, .ptr 1 0] [.box [.nils, .nils, .nils, .nils, .int .i64 0, .int .i64 0, .int .i64 0, .int .i64 0, .nils, .nils, .int .i64 0],
        .box [.row a0 [.int .i64] r0, .row a1 [.int .i64] r1, .row a2 [.int .i64] r2, .sl 2 0 m.toNat, .int .i64 k, .int .i64 at_, .int .i64 fr, .int .i64 to_, .row a3 [.int .i64, .int .i64, .str] r3, .row a4 [.int .i64] r4, .int .i64 z],
        .arr 2 43 [.int .i64, .int .i64, .int .i64, .int .i64] rows']))
  | .fn (.func 26) [.ptr 4 0] [], .sl 3 0 j, [.arr 2 43 [.int .i64, .int .i64, .int .i64, .int .i64] rows, .box [.row nl2 [.int .u8] rs]] => (i = j ∧ i ≤ m ∧ m ≤ 100 ∧ n ≠ 0 ∧ 0 ≤ np ∧ np ≤ 100 ∧ rows.length = j) ∧
       (∀ rows', rows' = rows ++ s_calls n np rs (m - i).toNat → Q (.exit 0) [.ptr 0 0, .ptr 1 0] [.box [.nils, .nils, .nils, .nils, .int .i64 0, .int .i64 0, .int .i64 0, .int .i64 0, .nils, .nils, .int .i64 0],
        .box [.row a0 [.int .i64] r0, .row a1 [.int .i64] r1, .row a2 [.int .i64] r2, .sl 2 0 m.toNat, .int .i64 k, .int .i64 at_, .int .i64 fr, .int .i64 to_, .row a3 [.int .i64, .int .i64, .str] r3, .row a4 [.int .i64] r4, .int .i64 z],
        .arr 2 43 [.int .i64, .int .i64, .int .i64, .int .i64] rows'])
  | _, _, _ => False
def lCalls : LW := fun vals h Q => match vals, h with
  | [.ptr 0 0, .ptr 1 0, .ptr 2 0, F, .int .i64 m, .int .i64 i], .box [.int .i64 n, .int .i64 pi, .int .i64 e, .int .i64 g, .int .i64 fi, .row nl [.int .i64] ps] ::
      .box [.nils, .nils, .nils, .nils, .int .i64 0, .int .i64 0, .int .i64 0, .int .i64 0, .nils, .nils, .int .i64 0] ::
      .box [.row a0 [.int .i64] r0, .row a1 [.int .i64] r1, .row a2 [.int .i64] r2, C, .int .i64 k, .int .i64 at_, .int .i64 fr, .int .i64 to_, .row a3 [.int .i64, .int .i64, .str] r3, .row a4 [.int .i64] r4, .int .i64 z] :: rest =>
    lCl i m n ps.length k at_ fr to_ z a0 a1 a2 a3 a4 r0 r1 r2 r3 r4 Q F C rest
  | _, _ => False
def sCloneC : SW := fun args h Q => match args, h with
  | [.row nl [.int .i64, .int .i64, .int .i64, .int .i64] rs], [] => Hyp (nl = false ∧ rs.length ≤ 100000) ∧ Q (.row false [.int .i64, .int .i64, .int .i64, .int .i64] rs, [])
  | [.nils], [] => Q (.row true [.int .i64, .int .i64, .int .i64, .int .i64] [], [])
  | _, _ => False
/-- How many bytes stand ahead of the rounds. -/
def s_rN (n : Int) (rs : List (List AV)) : Nat := n.toNat + 8 + 8 + (s_fN (s_drop (n.toNat + 8 + 8) rs) + 4)
def s_cN (n : Int) (rs : List (List AV)) : Nat := ((s_at rs (s_rN n rs + 1 + 0)).tmod 16).toNat
def sOfS : SW := fun args h Q => match args, h with
  | [.agg [.int .i64 n, .int .i64 pi, .int .i64 e, .int .i64 g, .int .i64 fi, .row nl [.int .i64] ps], .row nl2 [.int .u8] rs], [] =>
    Hyp (s_confOk n pi e g fi (ints ps) = true ∧ s_bytes rs ∧ (nl2 = true → rs = []) ∧ rs.length ≤ 100000) ∧ ∀ nl' : Bool, Q (.agg [.row false [.int .i64] (s_rowi (s_on rs n.toNat)), .row false [.int .i64] (s_rowi (s_sg (s_drop n.toNat rs) 1 8)), .row false [.int .i64] (s_rowi (s_sg (s_drop (n.toNat + 8) rs) 1 8)),
      .row nl' [.int .i64, .int .i64, .int .i64, .int .i64] (s_calls n ps.length (s_drop (s_rN n rs + 1 + 1) rs) (s_cN n rs)),
      .int .i64 ((s_at rs (n.toNat + 8 + 8 + 0)).tmod 3), .int .i64 (s_fat n ((s_at rs (n.toNat + 8 + 8 + 0)).tmod 3) (s_at rs (n.toNat + 8 + 8 + 1))), .int .i64 ((s_at rs (n.toNat + 8 + 8 + 2)).tmod 60), .int .i64 ((s_at rs (n.toNat + 8 + 8 + 2)).tmod 60 + (s_at rs (n.toNat + 8 + 8 + 3)).tmod 60),
      .row false [.int .i64, .int .i64, .str] (s_acts (s_drop (n.toNat + 8 + 8 + 5) rs) (s_fA (s_drop (n.toNat + 8 + 8) rs))), .row false [.int .i64] (s_rowi (s_sg (s_drop (n.toNat + 8 + 8 + s_fN (s_drop (n.toNat + 8 + 8) rs)) rs) 8 4)),
      .int .i64 (20 + (s_at rs (s_rN n rs + 0)).tmod 40)], [])
  | _, _ => False
def S6 : Sp := ⟨(20, sCloneB) :: (27, sCloneC) :: (19, sCheck) :: (10, sMake) :: S5.fn, []⟩
def S6L : Sp := ⟨S6.fn, [(11, 13, lCalls)]⟩
def S7 : Sp := ⟨(11, sOfS) :: S6.fn, []⟩
end Go.Proofs.YthihinlamlamhaaE
