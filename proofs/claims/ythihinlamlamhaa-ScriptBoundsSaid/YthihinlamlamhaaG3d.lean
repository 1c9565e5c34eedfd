/- Acts, loci, calls, scripts of a stream of bytes. -/
import Derived.Test.YthihinlamlamhaaG2p
namespace Go.Proofs.YthihinlamlamhaaE
open Go
set_option linter.unusedVariables false

/-- An act; how many bytes it takes. -/
def s_act (rs : List (List AV)) : List AV := [.int .i64 ((s_at rs 0).tmod 7), .int .i64 (s_at rs 1), .str (s_text rs ((s_at rs 2).tmod 4).toNat 3 ⟨#[]⟩)]
def s_actN (rs : List (List AV)) : Nat := 3 + ((s_at rs 2).tmod 4).toNat
def s_acts (rs : List (List AV)) : Nat → List (List AV)
  | 0 => []
  | k + 1 => s_act rs :: s_acts (s_drop (s_actN rs) rs) k
def s_actsN (rs : List (List AV)) : Nat → Nat
  | 0 => 0
  | k + 1 => s_actN rs + s_actsN (s_drop (s_actN rs) rs) k
def s_fat (n k b : Int) : Int := if k = 2 then b.tmod (2 * n) else if k = 1 then b.tmod n else 0
/-- A locus: its cells; how many bytes it takes. -/
def s_fA (rs : List (List AV)) : Nat := ((s_at rs 4).tmod 8).toNat
def s_fN (rs : List (List AV)) : Nat := 5 + s_actsN (s_drop 5 rs) (s_fA rs)
def sFaultS : SW := fun args h Q => match args, h with
  | [.ptr 0 0, .agg [.int .i64 n, .int .i64 pi, .int .i64 e, .int .i64 g, .int .i64 fi, .row nl [.int .i64] ps]], [.box [.row nl2 [.int .u8] rs]] =>
    Hyp (6 ≤ n ∧ n ≤ 12 ∧ s_bytes rs) ∧ Q (.agg [.int .i64 ((s_at rs 0).tmod 3), .int .i64 (s_fat n ((s_at rs 0).tmod 3) (s_at rs 1)), .int .i64 ((s_at rs 2).tmod 60), .int .i64 ((s_at rs 2).tmod 60 + (s_at rs 3).tmod 60),
      .row false [.int .i64, .int .i64, .str] (s_acts (s_drop 5 rs) (s_fA rs)), .row false [.int .i64] (irow .i64 (s_sg (s_drop (s_fN rs) rs) 8 4))], [.box [.row nl2 [.int .u8] (s_drop (s_fN rs + 4) rs)]])
  | _, _ => False
def s_call (n np : Int) (rs : List (List AV)) : List AV := [.int .i64 ((s_at rs 0).tmod 60), .int .i64 ((s_at rs 1).tmod n), .int .i64 ((s_at rs 2).tmod (np + 1)), .int .i64 (s_at rs 3)]
def sCallS : SW := fun args h Q => match args, h with
  | [.ptr 0 0, .agg [.int .i64 n, .int .i64 pi, .int .i64 e, .int .i64 g, .int .i64 fi, .row nl [.int .i64] ps]], [.box [.row nl2 [.int .u8] rs]] =>
    Hyp (n ≠ 0 ∧ ps.length ≤ 100) ∧ Q (.agg [.int .i64 ((s_at rs 0).tmod 60), .int .i64 ((s_at rs 1).tmod n), .int .i64 ((s_at rs 2).tmod ((ps.length : Int) + 1)), .int .i64 (s_at rs 3)], [.box [.row nl2 [.int .u8] (s_drop 4 rs)]])
  | _, _ => False
/-- So many calls. -/
def s_calls (n np : Int) (rs : List (List AV)) : Nat → List (List AV)
  | 0 => []
  | k + 1 => s_call n np rs :: s_calls n np (s_drop 4 rs) k
def s_len3 (rows : List (List AV)) : Prop := ∀ r ∈ rows, r.length = 3
def lFActs : LW := fun vals h Q => match vals, h with
  | [.ptr 0 0, .ptr 1 0, .ptr 2 0, .int .i64 m, .int .i64 i], [.box [.row nl [.int .u8] rs], .box [.int .i64 z1, .int .i64 z2, .int .i64 z3, .int .i64 z4, .nils, .nils], .box [.int .i64 k, .int .i64 a, .int .i64 f, .int .i64 t, .sl 3 0 n, .nils], .arr 2 47 [.int .i64, .int .i64, .str] rows] =>
    Hyp (m = n ∧ 0 ≤ i ∧ i ≤ m ∧ n ≤ 100 ∧ rows.length = n ∧ s_len3 rows ∧ s_bytes rs) ∧ ∀ rows', rows' = rows.take i.toNat ++ s_acts rs (n - i.toNat) →
      Q (.exit 1) [.ptr 0 0, .ptr 1 0, .ptr 2 0] [.box [.row nl [.int .u8] (s_drop (s_actsN rs (n - i.toNat)) rs)], .box [.int .i64 z1, .int .i64 z2, .int .i64 z3, .int .i64 z4, .nils, .nils], .box [.int .i64 k, .int .i64 a, .int .i64 f, .int .i64 t, .sl 3 0 n, .nils], .arr 2 47 [.int .i64, .int .i64, .str] rows']
  | _, _ => False
def S4L : Sp := ⟨S4.fn, [(25, 1012, lFActs)]⟩
def S5 : Sp := ⟨(25, sFaultS) :: (26, sCallS) :: S4.fn, []⟩
end Go.Proofs.YthihinlamlamhaaE
