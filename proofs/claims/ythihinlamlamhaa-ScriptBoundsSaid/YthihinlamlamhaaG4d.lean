/- Specs of configurations, and of scripts. -/
import Derived.Test.YthihinlamlamhaaG3p
namespace Go.Proofs.YthihinlamlamhaaE
open Go
set_option linter.unusedVariables false

/-- A configuration that may be. -/
def s_made (n pi e g fi : Int) (ps : List Int) : Prop :=
  6 ≤ n ∧ n ≤ 12 ∧ 0 ≤ e ∧ e ≤ 20 ∧ 0 ≤ g ∧ g ≤ 20 ∧ 0 ≤ fi ∧ fi ≤ 65535 ∧ 4 * (e + g + 1) ≤ pi ∧ pi ≤ 4 * (e + g + 1) + 99 ∧ ps.length ≤ 3 ∧ ∀ p ∈ ps, -1 ≤ p ∧ p < n
def sMake : SW := fun args h Q => match args, h with
  | [.agg [.int .i64 n, .int .i64 pi, .int .i64 e, .int .i64 g, .int .i64 fi, .row nl [.int .i64] rs]], [] =>
    ∀ (n' pi' e' g' fi' : Int) (nl' : Bool) (ps : List Int), s_made n' pi' e' g' fi' ps → Q (cf n' pi' e' g' fi' nl' (irow .i64 ps), [])
  | _, _ => False
def s_confOk (n pi e g fi : Int) (ps : List Int) : Bool :=
  decide (6 ≤ n) && decide (n ≤ 12) && decide (0 ≤ e) && decide (e ≤ 100) && decide (0 ≤ g) && decide (g ≤ 100) && decide (0 ≤ fi) && decide (fi ≤ 65535) && decide (4 * (e + g + 1) ≤ pi) && decide (pi ≤ 10000) && decide (ps.length ≤ 3) && ps.all fun p => decide (-1 ≤ p) && decide (p < n)
def ints (rs : List (List AV)) : List Int := rs.map fun r => AV.toI (r.getD 0 .gone)
def sCheck : SW := fun args h Q => match args, h with
  | [.agg [.int .i64 n, .int .i64 pi, .int .i64 e, .int .i64 g, .int .i64 fi, .row nl [.int .i64] rs]], [] => Hyp (s_confOk n pi e g fi (ints rs) = true) ∧ (Q (.int .i64 0, []))
  | [.agg [.int .i64 n, .int .i64 pi, .int .i64 e, .int .i64 g, .int .i64 fi, .nils]], [] => Hyp (s_confOk n pi e g fi [] = true) ∧ (Q (.int .i64 0, []))
  | _, _ => False
/-- Loops. -/
def lMake : LW := fun vals h Q => match vals, h with
  | [.ptr 0 0, .ptr 1 0, .ptr 2 0, .int .i64 i], [.box [.int .i64 n', .int .i64 pi', .int .i64 e', .int .i64 g', .int .i64 fi', .row nl [.int .i64] rs], .box [.int .i64 z1, .int .i64 z2, .int .i64 z3, .int .i64 z4, .int .i64 z5, .nils], .box [.int .i64 n, .int .i64 pi, .int .i64 e, .int .i64 g, .int .i64 fi, .nils]] =>
    Hyp (i = 0 ∧ 6 ≤ n ∧ n ≤ 12) ∧
      (Q (.exit 0) [.ptr 0 0, .ptr 1 0] [.box [.int .i64 z1, .int .i64 z2, .int .i64 z3, .int .i64 z4, .int .i64 z5, .nils], .box [.int .i64 n, .int .i64 pi, .int .i64 e, .int .i64 g, .int .i64 fi, .nils]] ∧
        ∀ (ps : List Int), ps.length ≤ 3 → (∀ p ∈ ps, -1 ≤ p ∧ p < n) → Q (.exit 0) [.ptr 0 0, .ptr 1 0] [.box [.int .i64 z1, .int .i64 z2, .int .i64 z3, .int .i64 z4, .int .i64 z5, .nils], .box [.int .i64 n, .int .i64 pi, .int .i64 e, .int .i64 g, .int .i64 fi, .sl 2 0 ps.length], .arr 2 3 [.int .i64] (irow .i64 ps)])
  | [.ptr 0 0, .ptr 1 0, .ptr 2 0, .int .i64 i], [.box [.int .i64 n', .int .i64 pi', .int .i64 e', .int .i64 g', .int .i64 fi', .row nl [.int .i64] rs], .box [.int .i64 z1, .int .i64 z2, .int .i64 z3, .int .i64 z4, .int .i64 z5, .nils], .box [.int .i64 n, .int .i64 pi, .int .i64 e, .int .i64 g, .int .i64 fi, .sl 3 0 m], .arr 2 3 [.int .i64] rows] =>
    (i = m ∧ m ≤ 3 ∧ 6 ≤ n ∧ n ≤ 12 ∧ ∃ qs : List Int, rows = irow .i64 qs ∧ qs.length = m ∧ ∀ p ∈ qs, -1 ≤ p ∧ p < n) ∧
        ∀ (ps : List Int), ps.length ≤ 3 → (∀ p ∈ ps, -1 ≤ p ∧ p < n) → Q (.exit 0) [.ptr 0 0, .ptr 1 0] [.box [.int .i64 z1, .int .i64 z2, .int .i64 z3, .int .i64 z4, .int .i64 z5, .nils], .box [.int .i64 n, .int .i64 pi, .int .i64 e, .int .i64 g, .int .i64 fi, .sl 2 0 ps.length], .arr 2 3 [.int .i64] (irow .i64 ps)]
  | _, _ => False
def SCL : Sp := ⟨S5.fn, [(10, 6, lMake)]⟩
end Go.Proofs.YthihinlamlamhaaE
