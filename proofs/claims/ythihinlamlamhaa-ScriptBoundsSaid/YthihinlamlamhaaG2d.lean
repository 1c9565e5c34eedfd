/- A script's bytes as a stream: the functions that read. -/
import Derived.Test.YthihinlamlamhaaG1p
namespace Go.Proofs.YthihinlamlamhaaE
open Go
set_option linter.unusedVariables false

/-- The next byte; 0 behind the end. -/
def s_hd (rs : List (List AV)) : Int := if rs.length = 0 then 0 else IntKind.i64.wrap ((rs.getD 0 []).getD 0 AV.gone).toI
/-- The byte at place i. -/
def s_at (rs : List (List AV)) (i : Nat) : Int := s_hd (rs.drop i)
def s_drop (n : Nat) (rs : List (List AV)) : List (List AV) := rs.drop n
/-- All are bytes. -/
def s_bytes (rs : List (List AV)) : Prop := ∀ r ∈ rs, 0 ≤ (r.getD 0 AV.gone).toI ∧ (r.getD 0 AV.gone).toI ≤ 255
def sNext : SW := fun args h Q => match args, h with
  | [.ptr 0 0], [.box [.row nl [.int .u8] rs]] => Q (.int .i64 (s_hd rs), [.box [.row nl [.int .u8] (s_drop 1 rs)]])
  | _, _ => False
def sOf : SW := fun args h Q => match args, h with
  | [.ptr 0 0, .int .i64 n], [.box [.row nl [.int .u8] rs]] => chk (n ≠ 0) (Q (.int .i64 ((s_hd rs).tmod n), [.box [.row nl [.int .u8] (s_drop 1 rs)]]))
  | _, _ => False
def s_on (rs : List (List AV)) (n : Nat) : List Int := (List.range n).map fun i => (s_at rs i).tmod 24
def s_sg (rs : List (List AV)) (t : Int) (n : Nat) : List Int := (List.range n).map fun i => IntKind.i64.wrap (IntKind.i64.wrap (s_at rs i - 128) * t)
/-- A row of numbers, of either kind. -/
def sRow : SW := fun args h Q => match args, h with
  | [.int .i64 n, .fn (.func 21) [] [.ptr 0 0]], [.box [.ptr 1 0], .box [.row nl [.int .u8] rs]] => Hyp (0 ≤ n ∧ n ≤ 100) ∧ Q (.row false [.int .i64] (irow .i64 (s_on rs n.toNat)), [.box [.ptr 1 0], .box [.row nl [.int .u8] (s_drop n.toNat rs)]])
  | [.int .i64 n, .fn (.func 44) [] [.ptr 0 0, .ptr 2 0]], [.box [.ptr 1 0], .box [.row nl [.int .u8] rs], .box [.int .i64 t]] =>
    Hyp (0 ≤ n ∧ n ≤ 100) ∧ Q (.row false [.int .i64] (irow .i64 (s_sg rs t n.toNat)), [.box [.ptr 1 0], .box [.row nl [.int .u8] (s_drop n.toNat rs)], .box [.int .i64 t]])
  | _, _ => False
/-- So many symbols, each by a byte. -/
def s_text (rs : List (List AV)) : Nat → Nat → ByteArray → ByteArray
  | 0, _, s => s
  | k + 1, p, s => s_text rs k (p + 1) (s ++ if (s_at rs p).tmod 3 = 0 then ⟨#[48]⟩ else if (s_at rs p).tmod 3 = 1 then ⟨#[49]⟩ else ⟨#[35]⟩)
def sText : SW := fun args h Q => match args, h with
  | [.ptr 0 0], [.box [.row nl [.int .u8] rs]] => Hyp (s_bytes rs) ∧ Q (.str (s_text rs ((s_hd rs).tmod 4).toNat 1 ⟨#[]⟩), [.box [.row nl [.int .u8] (s_drop (1 + ((s_hd rs).tmod 4).toNat) rs)]])
  | _, _ => False
/-- The row's state in its loop: so many are filled in. -/
def lRowA : LW := fun vals h Q => match vals, h with
  | [.fn (.func 21) [] [.ptr 0 0], .sl 2 0 n, .int .i64 m, .int .i64 i], [.box [.ptr 1 0], .box [.row nl [.int .u8] rs], .arr 2 3 [.int .i64] rows] =>
    Hyp (m = n ∧ 0 ≤ i ∧ i ≤ m ∧ n ≤ 100 ∧ rows.length = n ∧ ∀ r ∈ rows, r.length = 1) ∧ ∀ rows', rows' = rows.take i.toNat ++ irow .i64 (s_on rs (n - i.toNat)) → Q (.exit 0) [.sl 2 0 n] [.box [.ptr 1 0], .box [.row nl [.int .u8] (s_drop (n - i.toNat) rs)], .arr 2 3 [.int .i64] rows']
  | _, _ => False
def lRowB : LW := fun vals h Q => match vals, h with
  | [.fn (.func 44) [] [.ptr 0 0, .ptr 2 0], .sl 3 0 n, .int .i64 m, .int .i64 i], [.box [.ptr 1 0], .box [.row nl [.int .u8] rs], .box [.int .i64 t], .arr 2 3 [.int .i64] rows] =>
    Hyp (m = n ∧ 0 ≤ i ∧ i ≤ m ∧ n ≤ 100 ∧ rows.length = n ∧ ∀ r ∈ rows, r.length = 1) ∧ ∀ rows', rows' = rows.take i.toNat ++ irow .i64 (s_sg rs t (n - i.toNat)) → Q (.exit 0) [.sl 3 0 n] [.box [.ptr 1 0], .box [.row nl [.int .u8] (s_drop (n - i.toNat) rs)], .box [.int .i64 t], .arr 2 3 [.int .i64] rows']
  | _, _ => False
/-- The text's loop: i of m symbols are there. -/
def lText : LW := fun vals h Q => match vals, h with
  | [.ptr 0 0, .str s, .int .i64 m, .int .i64 i], [.box [.row nl [.int .u8] rs]] =>
    Hyp (0 ≤ i ∧ i ≤ m ∧ m ≤ 1000 ∧ s.size = i ∧ s_bytes rs) ∧ Q (.exit 0) [.str (s_text rs (m - i).toNat 0 s)] [.box [.row nl [.int .u8] (s_drop (m - i).toNat rs)]]
  | _, _ => False
def S2 : Sp := ⟨(43, sNext) :: S1.fn, []⟩
def S3 : Sp := ⟨(22, sOf) :: S2.fn, []⟩
def S3L : Sp := ⟨S3.fn, [(23, 2003, lRowA), (23, 3003, lRowB), (45, 1003, lText)]⟩
def S4 : Sp := ⟨(23, sRow) :: (45, sText) :: S3.fn, []⟩
end Go.Proofs.YthihinlamlamhaaE
