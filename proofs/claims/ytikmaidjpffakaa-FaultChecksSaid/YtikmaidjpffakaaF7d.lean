/- Specs: how far a clock seems ahead, whether a locus may be. -/
import Derived.Test.YtikmaidjpffakaaF6d
namespace Go.Proofs.YtikmaidjpffakaaE
open Go
set_option linter.unusedVariables false

def s_dev (kind at_ fr to_ : Int) (ds : List Int) (pi ro owner node dev : Int) : Int :=
  if kind ≠ 1 ∨ owner ≠ at_ ∨ ro < fr ∨ ro ≥ to_ then dev else if ds.length = 0 then 0
  else min (max (ds.getD (s_rem (13 * ro + node) ds.length).toNat 0) (-(6 * pi))) (6 * pi)
def sDev : SW := fun args h Q => match args, h with
  | [.agg [.int .i64 n, .int .i64 pi, .int .i64 e, .int .i64 g, .int .i64 fi, .row nl [.int .i64] rs], .agg [.int .i64 kind, .int .i64 at_, .int .i64 fr, .int .i64 to_, .row nl1 [.int .i64, .int .i64, .str] acts, .row nl2 [.int .i64] ds], .int .i64 ro, .int .i64 owner, .int .i64 node, .int .i64 dev], [] =>
    Hyp (0 ≤ pi ∧ pi ≤ 1000000 ∧ 0 ≤ ro ∧ ro ≤ 1000000 ∧ 0 ≤ node ∧ node ≤ 1000000 ∧ ds.length ≤ 1000000) ∧ Q (.int .i64 (s_dev kind at_ fr to_ (ints ds) pi ro owner node dev), [])
  | _, _ => False
def s_long (acts : List (List AV)) : Bool := acts.any fun r => decide (1000 < (actText r).size)
def s_places (n kind : Int) : Int := if kind = 1 then n else if kind = 2 then 2 * n else 1
def s_fcheck (n kind at_ fr to_ : Int) (acts ds : List (List AV)) : Int :=
  if kind < 0 ∨ 2 < kind then 6 else if at_ < 0 ∨ s_places n kind ≤ at_ then 1 else if fr < 0 ∨ 1000 < to_ ∨ to_ < fr then 1
  else if 40 < acts.length ∨ 40 < ds.length then 2 else if s_long acts = true then 2 else 0
def sFCheck : SW := fun args h Q => match args, h with
  | [.agg [.int .i64 n, .int .i64 pi, .int .i64 e, .int .i64 g, .int .i64 fi, .row nl [.int .i64] rs], .agg [.int .i64 kind, .int .i64 at_, .int .i64 fr, .int .i64 to_, .row nl1 [.int .i64, .int .i64, .str] acts, .row nl2 [.int .i64] ds]], [] =>
    Hyp (0 ≤ n ∧ n ≤ 1000000 ∧ acts.length ≤ 9223372036854775807) ∧ Q (.int .i64 (s_fcheck n kind at_ fr to_ acts ds), [])
  | _, _ => False
def lIdxA : LW := fun vals h Q => match vals, h with
  | [.row nl [.int .i64, .int .i64, .str] rs, .fn (.func 43) [] [], .int .i64 m, .int .i64 i], [] =>
    Hyp (m = rs.length ∧ 0 ≤ i ∧ i ≤ m ∧ rs.length ≤ 9223372036854775807 ∧ ∀ r ∈ rs.take i.toNat, ¬ 1000 < (actText r).size) ∧
      ((s_long rs = false → Q (.exit 0) [] []) ∧ ∀ j : Int, 0 ≤ j → s_long rs = true → Q .ret [.int .i64 j] [])
  | _, _ => False
def sHasA : SW := fun args h Q => match args, h with
  | [.row nl [.int .i64, .int .i64, .str] rs, .fn (.func 43) [] []], [] => Hyp (rs.length ≤ 9223372036854775807) ∧ Q (.bool (s_long rs), [])
  | _, _ => False
def lChk : LW := fun vals h Q => match vals, h with
  | [.ptr 0 0, .int .i64 i], [.box [.int .i64 k, .int .i64 a, .int .i64 f, .int .i64 t, .row nl [.int .i64, .int .i64, .str] rs, .row nl2 [.int .i64] ds]] =>
    Hyp (0 ≤ i ∧ i ≤ rs.length ∧ rs.length ≤ 9223372036854775807 ∧ ∀ r ∈ rs.take i.toNat, ¬ 1000 < (actText r).size) ∧
      ((s_long rs = false → Q (.exit 1) [] []) ∧ (s_long rs = true → Q .ret [.int .i64 2] []))
  | _, _ => False
def S10L : Sp := ⟨S9.fn, [(64, 2, lIdxA), (16, 14, lChk)]⟩
def S10 : Sp := ⟨(42, sHasA) :: S9.fn, []⟩
def S11 : Sp := ⟨(15, sFCheck) :: (16, sFCheck) :: (38, sDev) :: (39, sDev) :: S9.fn, []⟩
end Go.Proofs.YtikmaidjpffakaaE
