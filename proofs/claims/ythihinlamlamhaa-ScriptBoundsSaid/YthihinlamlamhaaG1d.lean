/- Specs for ScriptKnown. -/
import Derived.Test.YthihinlamlamhaaG0
namespace Go.Proofs.YthihinlamlamhaaE
open Go
set_option linter.unusedVariables false

abbrev cf (n pi e g fi : Int) (nl : Bool) (rs : List (List AV)) : AV := .agg [.int .i64 n, .int .i64 pi, .int .i64 e, .int .i64 g, .int .i64 fi, .row nl [.int .i64] rs]
def s_rem (a n : Int) : Int := a % n
def sWithin : SW := fun args h Q => match args, h with
  | [.int .i64 a, .int .i64 n], [] => chk (0 < n ∧ n < 9223372036854775808) (Q (.int .i64 (s_rem a n), []))
  | _, _ => False
def sKnown : SW := fun args h Q => match args, h with
  | [], [] => Q (.bool true, [])
  | _, _ => False
def S0 : Sp := ⟨[], []⟩
def S1 : Sp := ⟨[(17, sWithin), (18, sWithin), (9, sKnown)], []⟩
end Go.Proofs.YthihinlamlamhaaE
