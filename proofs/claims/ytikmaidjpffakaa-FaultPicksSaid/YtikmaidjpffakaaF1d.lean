/- Specs of small functions of this program. -/
import Derived.Test.YtikmaidjpffakaaF0
namespace Go.Proofs.YtikmaidjpffakaaE
open Go
set_option linter.unusedVariables false

/-- A configuration, as the interpreter has it. -/
abbrev cf (n pi e g fi : Int) (nl : Bool) (rs : List (List AV)) : AV := .agg [.int .i64 n, .int .i64 pi, .int .i64 e, .int .i64 g, .int .i64 fi, .row nl [.int .i64] rs]
def s_rem (a n : Int) : Int := a % n
def sWithin : SW := fun args h Q => match args, h with
  | [.int .i64 a, .int .i64 n], [] => chk (0 < n ∧ n < 9223372036854775808) (Q (.int .i64 (s_rem a n), []))
  | _, _ => False
/-- A configuration that may be. -/
def s_made (n pi e g fi : Int) (ps : List Int) : Prop :=
  6 ≤ n ∧ n ≤ 12 ∧ 0 ≤ e ∧ e ≤ 20 ∧ 0 ≤ g ∧ g ≤ 20 ∧ 0 ≤ fi ∧ fi ≤ 65535 ∧ 4 * (e + g + 1) ≤ pi ∧ pi ≤ 4 * (e + g + 1) + 99 ∧ ps.length ≤ 3 ∧ ∀ p ∈ ps, -1 ≤ p ∧ p < n
def sMake : SW := fun args h Q => match args, h with
  | [.agg [.int .i64 n, .int .i64 pi, .int .i64 e, .int .i64 g, .int .i64 fi, .row nl [.int .i64] rs]], [] =>
    ∀ (n' pi' e' g' fi' : Int) (nl' : Bool) (ps : List Int), s_made n' pi' e' g' fi' ps → Q (cf n' pi' e' g' fi' nl' (irow .i64 ps), [])
  | _, _ => False
def sText : SW := fun args h Q => match args, h with
  | [.row nl [.int .i64] rs], [] => ∀ s : ByteArray, s.size ≤ 80 → Q (.str s, [])
  | _, _ => False
/-- Some front of a text. -/
def sFront : SW := fun args h Q => match args, h with
  | [.str s], [] => Hyp ((s.size : Int) ≤ 4611686018427387904) ∧ (∀ t : ByteArray, t.size ≤ s.size → Q (.str t, []))
  | _, _ => False
def s_confOk (n pi e g fi : Int) (ps : List Int) : Bool :=
  decide (6 ≤ n) && decide (n ≤ 12) && decide (0 ≤ e) && decide (e ≤ 100) && decide (0 ≤ g) && decide (g ≤ 100) && decide (0 ≤ fi) && decide (fi ≤ 65535) && decide (4 * (e + g + 1) ≤ pi) && decide (pi ≤ 10000) && decide (ps.length ≤ 3) && ps.all fun p => decide (-1 ≤ p) && decide (p < n)
def ints (rs : List (List AV)) : List Int := rs.map fun r => AV.toI (r.getD 0 .gone)
def sCheck : SW := fun args h Q => match args, h with
  | [.agg [.int .i64 n, .int .i64 pi, .int .i64 e, .int .i64 g, .int .i64 fi, .row nl [.int .i64] rs]], [] => Hyp (s_confOk n pi e g fi (ints rs) = true) ∧ (Q (.int .i64 0, []))
  | [.agg [.int .i64 n, .int .i64 pi, .int .i64 e, .int .i64 g, .int .i64 fi, .nils]], [] => Hyp (s_confOk n pi e g fi [] = true) ∧ (Q (.int .i64 0, []))
  | _, _ => False
def sPick : SW := fun args h Q => match args, h with
  | [.int .i64 n, .int .i64 m], [] => chk (m ≤ 4611686018427387904) (br (decide (m ≤ 0)) (Q (.int .i64 (-1), [])) (br (decide (m = 1)) (Q (.int .i64 0, [])) (Q (.int .i64 (s_rem n m), []))))
  | _, _ => False
def S0 : Sp := ⟨[], []⟩
def S1 : Sp := ⟨[(40, sWithin), (17, sWithin), (55, sWithin), (44, sWithin)], []⟩
/-- Loops. -/
def lMake : LW := fun vals h Q => match vals, h with
  | [.ptr 0 0, .ptr 1 0, .ptr 2 0, .int .i64 i], [.box [.int .i64 n', .int .i64 pi', .int .i64 e', .int .i64 g', .int .i64 fi', .row nl [.int .i64] rs], .box [.int .i64 z1, .int .i64 z2, .int .i64 z3, .int .i64 z4, .int .i64 z5, .nils], .box [.int .i64 n, .int .i64 pi, .int .i64 e, .int .i64 g, .int .i64 fi, .nils]] =>
    Hyp (i = 0 ∧ 6 ≤ n ∧ n ≤ 12) ∧
      (Q (.exit 0) [.ptr 0 0, .ptr 1 0] [.box [.int .i64 z1, .int .i64 z2, .int .i64 z3, .int .i64 z4, .int .i64 z5, .nils], .box [.int .i64 n, .int .i64 pi, .int .i64 e, .int .i64 g, .int .i64 fi, .nils]] ∧
        ∀ (ps : List Int), ps.length ≤ 3 → (∀ p ∈ ps, -1 ≤ p ∧ p < n) → Q (.exit 0) [.ptr 0 0, .ptr 1 0] [.box [.int .i64 z1, .int .i64 z2, .int .i64 z3, .int .i64 z4, .int .i64 z5, .nils], .box [.int .i64 n, .int .i64 pi, .int .i64 e, .int .i64 g, .int .i64 fi, .sl 2 0 ps.length], .arr 2 3 [.int .i64] (irow .i64 ps)])
  | [.ptr 0 0, .ptr 1 0, .ptr 2 0, .int .i64 i], [.box [.int .i64 n', .int .i64 pi', .int .i64 e', .int .i64 g', .int .i64 fi', .row nl [.int .i64] rs], .box [.int .i64 z1, .int .i64 z2, .int .i64 z3, .int .i64 z4, .int .i64 z5, .nils], .box [.int .i64 n, .int .i64 pi, .int .i64 e, .int .i64 g, .int .i64 fi, .sl 3 0 m], .arr 2 3 [.int .i64] rows] =>
    (i = m ∧ m ≤ 3 ∧ 6 ≤ n ∧ n ≤ 12 ∧ ∃ qs : List Int, rows = irow .i64 qs ∧ qs.length = m ∧ ∀ p ∈ qs, -1 ≤ p ∧ p < n) ∧
        ∀ (ps : List Int), ps.length ≤ 3 → (∀ p ∈ ps, -1 ≤ p ∧ p < n) → Q (.exit 0) [.ptr 0 0, .ptr 1 0] [.box [.int .i64 z1, .int .i64 z2, .int .i64 z3, .int .i64 z4, .int .i64 z5, .nils], .box [.int .i64 n, .int .i64 pi, .int .i64 e, .int .i64 g, .int .i64 fi, .sl 2 0 ps.length], .arr 2 3 [.int .i64] (irow .i64 ps)]
  | _, _ => False
def lText : LW := fun vals h Q => match vals, h with
  | [.row nl [.int .i64] rs, .str s, .int .i64 i], [] => Hyp (0 ≤ i ∧ i = s.size ∧ i ≤ 80) ∧ (∀ t : ByteArray, t.size ≤ 80 → Q (.exit 0) [.str t] [])
  | _, _ => False
def lFront : LW := fun vals h Q => match vals, h with
  | [.str s, .int .i64 i], [] => Hyp (0 ≤ i ∧ i ≤ s.size ∧ (s.size : Int) ≤ 4611686018427387904) ∧ ((∀ t : ByteArray, t.size ≤ s.size → Q (.exit 0) [.str t] []) ∧ (∀ t : ByteArray, t.size ≤ s.size → Q .ret [.str t] []))
  | _, _ => False
def S1L : Sp := ⟨S1.fn, [(13, 6, lMake), (29, 3, lText), (31, 2, lFront)]⟩
end Go.Proofs.YtikmaidjpffakaaE
