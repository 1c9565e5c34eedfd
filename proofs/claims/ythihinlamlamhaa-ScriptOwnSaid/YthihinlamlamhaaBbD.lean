/- ScriptChecks: specs. -/
import Derived.Test.YthihinlamlamhaaBbC
import Derived.KernelRfl
namespace Go.Proofs.YthihinlamlamhaaE
open Go
set_option linter.unusedVariables false

def sOfW : SW := fun args h Q => match args, h with
  | [.agg [.int .i64 n, .int .i64 pi, .int .i64 e, .int .i64 g, .int .i64 fi, .row nl [.int .i64] ps], .row nl2 [.int .u8] rs], [] =>
    Hyp (s_confOk n pi e g fi (ints ps) = true ∧ s_bytes rs ∧ (nl2 = true → rs = []) ∧ rs.length ≤ 100000) ∧ ∀ (nl'' : Bool) (on dr er ca ac dv : List (List AV)) (k a f t z : Int), on.length = n.toNat ∧ dr.length = 8 ∧ er.length = 8 ∧ ac.length ≤ 7 ∧ dv.length = 4 ∧ ca.length ≤ 15 →
      (ca.length = 0 → Q (.agg [.sl 0 0 on.length, .row false [.int .i64] dr, .row false [.int .i64] er, .nils, .int .i64 k, .int .i64 a, .int .i64 f, .int .i64 t, .row nl'' [.int .i64, .int .i64, .str] ac, .row false [.int .i64] dv, .int .i64 z], [.arr 2 3 [.int .i64] on])) ∧
      Q (.agg [.sl 0 0 on.length, .row false [.int .i64] dr, .row false [.int .i64] er, .sl 1 0 ca.length, .int .i64 k, .int .i64 a, .int .i64 f, .int .i64 t, .row nl'' [.int .i64, .int .i64, .str] ac, .row false [.int .i64] dv, .int .i64 z], [.arr 2 3 [.int .i64] on, .arr 2 43 [.int .i64, .int .i64, .int .i64, .int .i64] ca])
  | _, _ => False
def lRows : LW := fun vals h Q => match vals, h with
  | [.row nl [.int .i64] rs, .row nl2 [.int .i64] rs', .int .i64 i], [] => Hyp (rs' = rs ∧ 0 ≤ i ∧ i ≤ rs.length ∧ rs.length ≤ 1000000) ∧ Q (.exit 0) [] []
  | _, _ => False
def sRows : SW := fun args h Q => match args, h with
  | [.row nl [.int .i64] rs, .row nl2 [.int .i64] rs'], [] => Hyp (rs' = rs ∧ rs.length ≤ 1000000) ∧ Q (.bool true, [])
  | _, _ => False
def lSameC : LW := fun vals h Q => match vals, h with
  | [.ptr 0 0, .ptr 1 0, .int .i64 i], [.box [.row b0 [.int .i64] r0, .row b1 [.int .i64] r1, .row b2 [.int .i64] r2, .row b3 [.int .i64, .int .i64, .int .i64, .int .i64] r3, .int .i64 k, .int .i64 a, .int .i64 f, .int .i64 t, .row b4 [.int .i64, .int .i64, .str] r4, .row b5 [.int .i64] r5, .int .i64 z], .box [.row b0' [.int .i64] r0', .row b1' [.int .i64] r1', .row b2' [.int .i64] r2', .row b3' [.int .i64, .int .i64, .int .i64, .int .i64] r3', .int .i64 k', .int .i64 a', .int .i64 f', .int .i64 t', .row b4' [.int .i64, .int .i64, .str] r4', .row b5' [.int .i64] r5', .int .i64 z']] =>
    Hyp (r3' = r3 ∧ 0 ≤ i ∧ i ≤ r3.length ∧ r3.length ≤ 1000000) ∧ Q (.exit 0) [.ptr 0 0, .ptr 1 0] [.box [.row b0 [.int .i64] r0, .row b1 [.int .i64] r1, .row b2 [.int .i64] r2, .row b3 [.int .i64, .int .i64, .int .i64, .int .i64] r3, .int .i64 k, .int .i64 a, .int .i64 f, .int .i64 t, .row b4 [.int .i64, .int .i64, .str] r4, .row b5 [.int .i64] r5, .int .i64 z], .box [.row b0' [.int .i64] r0', .row b1' [.int .i64] r1', .row b2' [.int .i64] r2', .row b3' [.int .i64, .int .i64, .int .i64, .int .i64] r3', .int .i64 k', .int .i64 a', .int .i64 f', .int .i64 t', .row b4' [.int .i64, .int .i64, .str] r4', .row b5' [.int .i64] r5', .int .i64 z']]
  | _, _ => False
def lSameA : LW := fun vals h Q => match vals, h with
  | [.ptr 0 0, .ptr 1 0, .int .i64 i], [.box [.row b0 [.int .i64] r0, .row b1 [.int .i64] r1, .row b2 [.int .i64] r2, .row b3 [.int .i64, .int .i64, .int .i64, .int .i64] r3, .int .i64 k, .int .i64 a, .int .i64 f, .int .i64 t, .row b4 [.int .i64, .int .i64, .str] r4, .row b5 [.int .i64] r5, .int .i64 z], .box [.row b0' [.int .i64] r0', .row b1' [.int .i64] r1', .row b2' [.int .i64] r2', .row b3' [.int .i64, .int .i64, .int .i64, .int .i64] r3', .int .i64 k', .int .i64 a', .int .i64 f', .int .i64 t', .row b4' [.int .i64, .int .i64, .str] r4', .row b5' [.int .i64] r5', .int .i64 z']] =>
    Hyp (r4' = r4 ∧ 0 ≤ i ∧ i ≤ r4.length ∧ r4.length ≤ 1000000) ∧ Q (.exit 2) [.ptr 0 0, .ptr 1 0] [.box [.row b0 [.int .i64] r0, .row b1 [.int .i64] r1, .row b2 [.int .i64] r2, .row b3 [.int .i64, .int .i64, .int .i64, .int .i64] r3, .int .i64 k, .int .i64 a, .int .i64 f, .int .i64 t, .row b4 [.int .i64, .int .i64, .str] r4, .row b5 [.int .i64] r5, .int .i64 z], .box [.row b0' [.int .i64] r0', .row b1' [.int .i64] r1', .row b2' [.int .i64] r2', .row b3' [.int .i64, .int .i64, .int .i64, .int .i64] r3', .int .i64 k', .int .i64 a', .int .i64 f', .int .i64 t', .row b4' [.int .i64, .int .i64, .str] r4', .row b5' [.int .i64] r5', .int .i64 z']]
  | _, _ => False
def sSame : SW := fun args h Q => match args, h with
  | [.agg [.row b0 [.int .i64] r0, .row b1 [.int .i64] r1, .row b2 [.int .i64] r2, .row b3 [.int .i64, .int .i64, .int .i64, .int .i64] r3, .int .i64 k, .int .i64 a, .int .i64 f, .int .i64 t, .row b4 [.int .i64, .int .i64, .str] r4, .row b5 [.int .i64] r5, .int .i64 z], .agg [.row b0' [.int .i64] r0', .row b1' [.int .i64] r1', .row b2' [.int .i64] r2', .row b3' [.int .i64, .int .i64, .int .i64, .int .i64] r3', .int .i64 k', .int .i64 a', .int .i64 f', .int .i64 t', .row b4' [.int .i64, .int .i64, .str] r4', .row b5' [.int .i64] r5', .int .i64 z']], [] =>
    Hyp ((r0' = r0 ∧ r1' = r1 ∧ r2' = r2 ∧ r3' = r3 ∧ k' = k ∧ a' = a ∧ f' = f ∧ t' = t ∧ r4' = r4 ∧ r5' = r5 ∧ z' = z) ∧ r0.length ≤ 1000000 ∧ r1.length ≤ 1000000 ∧ r2.length ≤ 1000000 ∧ r3.length ≤ 1000000 ∧ r4.length ≤ 1000000 ∧ r5.length ≤ 1000000) ∧ Q (.bool true, [])
  | _, _ => False
/-- Checks. -/
def actText (r : List AV) : ByteArray := (r.getD 2 AV.gone).toS
def s_long (acts : List (List AV)) : Bool := acts.any fun r => decide (1000 < (actText r).size)
def s_places (n kind : Int) : Int := if kind = 1 then n else if kind = 2 then 2 * n else 1
def s_fcheck (n kind at_ fr to_ : Int) (acts ds : List (List AV)) : Int :=
  if kind < 0 ∨ 2 < kind then 6 else if at_ < 0 ∨ s_places n kind ≤ at_ then 1 else if fr < 0 ∨ 1000 < to_ ∨ to_ < fr then 1
  else if 40 < acts.length ∨ 40 < ds.length then 2 else if s_long acts = true then 2 else 0
def sFCheck : SW := fun args h Q => match args, h with
  | [.agg [.int .i64 n, .int .i64 pi, .int .i64 e, .int .i64 g, .int .i64 fi, .row nl [.int .i64] ps], .agg [.int .i64 k, .int .i64 a, .int .i64 f, .int .i64 t, .row b4 [.int .i64, .int .i64, .str] r4, .row b5 [.int .i64] r5]], [] =>
    Hyp (0 ≤ n ∧ n ≤ 1000000 ∧ r4.length ≤ 9223372036854775807) ∧ Q (.int .i64 (s_fcheck n k a f t r4 r5), [])
  | _, _ => False
def lIdxA : LW := fun vals h Q => match vals, h with
  | [.row nl [.int .i64, .int .i64, .str] rs, .fn (.func 50) [] [], .int .i64 m, .int .i64 i], [] =>
    Hyp (m = rs.length ∧ 0 ≤ i ∧ i ≤ m ∧ rs.length ≤ 9223372036854775807 ∧ ∀ r ∈ rs.take i.toNat, ¬ 1000 < (actText r).size) ∧
      ((s_long rs = false → Q (.exit 0) [] []) ∧ ∀ j : Int, 0 ≤ j → s_long rs = true → Q .ret [.int .i64 j] [])
  | _, _ => False
def sHasA : SW := fun args h Q => match args, h with
  | [.row nl [.int .i64, .int .i64, .str] rs, .fn (.func 50) [] []], [] => Hyp (rs.length ≤ 9223372036854775807) ∧ Q (.bool (s_long rs), [])
  | _, _ => False
def lChk : LW := fun vals h Q => match vals, h with
  | [.ptr 0 0, .int .i64 i], [.box [.int .i64 k, .int .i64 a, .int .i64 f, .int .i64 t, .row b4 [.int .i64, .int .i64, .str] r4, .row b5 [.int .i64] r5]] =>
    Hyp (0 ≤ i ∧ i ≤ r4.length ∧ r4.length ≤ 9223372036854775807 ∧ ∀ r ∈ r4.take i.toNat, ¬ 1000 < (actText r).size) ∧
      ((s_long r4 = false → Q (.exit 1) [] []) ∧ (s_long r4 = true → Q .ret [.int .i64 2] []))
  | _, _ => False
def s_in (x a b : Int) : Bool := decide (a ≤ x) && decide (x ≤ b)
def s_on1 (r : List AV) : Bool := s_in (r.getD 0 AV.gone).toI (-1) 200
def s_ca1 (n np : Int) (r : List AV) : Bool := s_in (r.getD 0 AV.gone).toI 0 200 && (s_in (r.getD 1 AV.gone).toI 0 (n - 1) && s_in (r.getD 2 AV.gone).toI 0 np)
def sIn : SW := fun args h Q => match args, h with
  | [.int .i64 x, .int .i64 a, .int .i64 b], [] => Q (.bool (s_in x a b), [])
  | _, _ => False
def lIdxI : LW := fun vals h Q => match vals, h with
  | [.row nl [.int .i64] rs, .fn (.func 33) [] [], .int .i64 m, .int .i64 i], [] =>
    Hyp (m = rs.length ∧ 0 ≤ i ∧ i ≤ m ∧ rs.length ≤ 9223372036854775807 ∧ ∀ r ∈ rs.take i.toNat, s_on1 r = true) ∧
      ((rs.all s_on1 = true → Q (.exit 0) [] []) ∧ ∀ j : Int, 0 ≤ j → rs.all s_on1 = false → Q .ret [.int .i64 j] [])
  | _, _ => False
def sHasI : SW := fun args h Q => match args, h with
  | [.row nl [.int .i64] rs, .fn (.func 33) [] []], [] => Hyp (rs.length ≤ 9223372036854775807) ∧ ∀ b : Bool, b = !rs.all s_on1 → Q (.bool b, [])
  | _, _ => False
def lIdxC : LW := fun vals h Q => match vals, h with
  | [.row nl2 [.int .i64, .int .i64, .int .i64, .int .i64] rs, .fn (.func 35) [] [.ptr 0 0], .int .i64 m, .int .i64 i], [.box [.int .i64 n, .int .i64 pi, .int .i64 e, .int .i64 g, .int .i64 fi, .row nl [.int .i64] ps]] =>
    Hyp (m = rs.length ∧ 0 ≤ i ∧ i ≤ m ∧ rs.length ≤ 9223372036854775807 ∧ 0 ≤ n ∧ n ≤ 1000000 ∧ ∀ r ∈ rs.take i.toNat, s_ca1 n ps.length r = true) ∧
      ((rs.all (s_ca1 n ps.length) = true → Q (.exit 0) [] [.box [.int .i64 n, .int .i64 pi, .int .i64 e, .int .i64 g, .int .i64 fi, .row nl [.int .i64] ps]]) ∧ ∀ j : Int, 0 ≤ j → rs.all (s_ca1 n ps.length) = false → Q .ret [.int .i64 j] [.box [.int .i64 n, .int .i64 pi, .int .i64 e, .int .i64 g, .int .i64 fi, .row nl [.int .i64] ps]])
  | _, _ => False
def sHasC : SW := fun args h Q => match args, h with
  | [.row nl2 [.int .i64, .int .i64, .int .i64, .int .i64] rs, .fn (.func 35) [] [.ptr 0 0]], [.box [.int .i64 n, .int .i64 pi, .int .i64 e, .int .i64 g, .int .i64 fi, .row nl [.int .i64] ps]] =>
    Hyp (rs.length ≤ 9223372036854775807 ∧ 0 ≤ n ∧ n ≤ 1000000) ∧ ∀ b : Bool, b = !rs.all (s_ca1 n ps.length) → Q (.bool b, [.box [.int .i64 n, .int .i64 pi, .int .i64 e, .int .i64 g, .int .i64 fi, .row nl [.int .i64] ps]])
  | _, _ => False
def s_scheck (n : Int) (np : Nat) (r0 r1 r2 r3 : List (List AV)) (k a f t : Int) (r4 r5 : List (List AV)) (z : Int) : Int :=
  if z < 0 ∨ 200 < z then 1 else if (r0.length : Int) ≠ n ∨ 60 < r1.length ∨ 60 < r2.length ∨ 100 < r3.length then 2
  else if r0.all s_on1 = false ∨ r3.all (s_ca1 n np) = false then 1 else s_fcheck n k a f t r4 r5
def sSCheck : SW := fun args h Q => match args, h with
  | [.agg [.int .i64 n, .int .i64 pi, .int .i64 e, .int .i64 g, .int .i64 fi, .row nl [.int .i64] ps], .agg [.row b0 [.int .i64] r0, .row b1 [.int .i64] r1, .row b2 [.int .i64] r2, .row b3 [.int .i64, .int .i64, .int .i64, .int .i64] r3, .int .i64 k, .int .i64 a, .int .i64 f, .int .i64 t, .row b4 [.int .i64, .int .i64, .str] r4, .row b5 [.int .i64] r5, .int .i64 z]], [] =>
    Hyp (0 ≤ n ∧ n ≤ 1000000 ∧ r0.length ≤ 9223372036854775807 ∧ r3.length ≤ 9223372036854775807 ∧ r4.length ≤ 9223372036854775807) ∧ Q (.int .i64 (s_scheck n ps.length r0 r1 r2 r3 k a f t r4 r5 z), [])
  | _, _ => False
def lOn16 : LW := fun vals h Q => match vals, h with
  | [.ptr 0 0, .ptr 1 0, .int .i64 i], [.box [.int .i64 n, .int .i64 pi, .int .i64 e, .int .i64 g, .int .i64 fi, .row nl [.int .i64] ps], .box [.row b0 [.int .i64] r0, .row b1 [.int .i64] r1, .row b2 [.int .i64] r2, .row b3 [.int .i64, .int .i64, .int .i64, .int .i64] r3, .int .i64 k, .int .i64 a, .int .i64 f, .int .i64 t, .row b4 [.int .i64, .int .i64, .str] r4, .row b5 [.int .i64] r5, .int .i64 z]] =>
    Hyp (0 ≤ i ∧ i ≤ r0.length ∧ r0.length ≤ 9223372036854775807 ∧ ∀ r ∈ r0.take i.toNat, s_on1 r = true) ∧
      ((r0.all s_on1 = true → Q (.exit 0) [.ptr 0 0, .ptr 1 0] [.box [.int .i64 n, .int .i64 pi, .int .i64 e, .int .i64 g, .int .i64 fi, .row nl [.int .i64] ps], .box [.row b0 [.int .i64] r0, .row b1 [.int .i64] r1, .row b2 [.int .i64] r2, .row b3 [.int .i64, .int .i64, .int .i64, .int .i64] r3, .int .i64 k, .int .i64 a, .int .i64 f, .int .i64 t, .row b4 [.int .i64, .int .i64, .str] r4, .row b5 [.int .i64] r5, .int .i64 z]]) ∧ (r0.all s_on1 = false → Q .ret [.int .i64 1] []))
  | _, _ => False
def lCa16 : LW := fun vals h Q => match vals, h with
  | [.ptr 0 0, .ptr 1 0, .int .i64 i], [.box [.int .i64 n, .int .i64 pi, .int .i64 e, .int .i64 g, .int .i64 fi, .row nl [.int .i64] ps], .box [.row b0 [.int .i64] r0, .row b1 [.int .i64] r1, .row b2 [.int .i64] r2, .row b3 [.int .i64, .int .i64, .int .i64, .int .i64] r3, .int .i64 k, .int .i64 a, .int .i64 f, .int .i64 t, .row b4 [.int .i64, .int .i64, .str] r4, .row b5 [.int .i64] r5, .int .i64 z]] =>
    Hyp (0 ≤ i ∧ i ≤ r3.length ∧ r3.length ≤ 9223372036854775807 ∧ ∀ r ∈ r3.take i.toNat, s_ca1 n ps.length r = true) ∧
      ((r3.all (s_ca1 n ps.length) = true → Q (.exit 2) [.ptr 0 0, .ptr 1 0] [.box [.int .i64 n, .int .i64 pi, .int .i64 e, .int .i64 g, .int .i64 fi, .row nl [.int .i64] ps], .box [.row b0 [.int .i64] r0, .row b1 [.int .i64] r1, .row b2 [.int .i64] r2, .row b3 [.int .i64, .int .i64, .int .i64, .int .i64] r3, .int .i64 k, .int .i64 a, .int .i64 f, .int .i64 t, .row b4 [.int .i64, .int .i64, .str] r4, .row b5 [.int .i64] r5, .int .i64 z]]) ∧ (r3.all (s_ca1 n ps.length) = false → Q .ret [.int .i64 1] []))
  | _, _ => False
def T5 : Sp := ⟨(13, sOfW) :: (34, sIn) :: T3.fn, []⟩
def T5L : Sp := ⟨T5.fn, [(28, 4, lRows), (51, 2, lIdxA), (40, 14, lChk), (46, 2, lIdxI), (47, 1002, lIdxC), (16, 6, lOn16), (16, 11, lCa16)]⟩
def T6 : Sp := ⟨(28, sRows) :: (49, sHasA) :: (40, sFCheck) :: (36, sHasI) :: (37, sHasC) :: T5.fn, []⟩
def T6L : Sp := ⟨T6.fn, [(12, 4, lSameC), (12, 9, lSameA), (16, 6, lOn16), (16, 11, lCa16)]⟩
def T7 : Sp := ⟨(12, sSame) :: (38, sFCheck) :: T6.fn, []⟩
def T7L : Sp := ⟨T7.fn, [(16, 6, lOn16), (16, 11, lCa16)]⟩
def T8 : Sp := ⟨(14, sSCheck) :: (16, sSCheck) :: T7.fn, []⟩
end Go.Proofs.YthihinlamlamhaaE
/- What path mode says of functions, printed by a program of this session; the kernel holds each. -/
namespace Go.Proofs.YthihinlamlamhaaE
open Go
set_option maxRecDepth 100000
set_option linter.unusedVariables false
theorem nf28a (nl nl2 : Bool) (rs rs' : List (List AV)) (i : Int) (Q : Ex → List AV → List AObj → Prop) : lpBody Try.prog H0 T5 6 6 28 4 [.row nl [.int .i64] rs, .row nl2 [.int .i64] rs', .int .i64 i] [] Q = (
br (decide (i < (↑rs.length : Int)))
 (chk ((0 : Int) ≤ i ∧ i < (↑rs.length : Int)) (chk ((0 : Int) ≤ i ∧ i < (↑rs'.length : Int)) (br (((rs.getD i.toNat []).getD (0 : Nat) AV.gone).toI != ((rs'.getD i.toNat []).getD (0 : Nat) AV.gone).toI)
  (Q (Ex.ret) ([AV.bool false]) ([]))
  (Q (Ex.nrm) ([AV.row nl [K.int IntKind.i64] rs, AV.row nl2 [K.int IntKind.i64] rs',
  AV.int IntKind.i64 (IntKind.i64.wrap (i + (1 : Int)))]) ([])))))
 (Q (Ex.exit (0 : Nat)) ([]) ([]))) := by kernel_rfl
theorem nf28 (nl nl2 : Bool) (rs rs' : List (List AV)) (Q : AV × List AObj → Prop) : inlW Try.prog H0 T5L 6 (InO Try.prog H0 T5L 6 6) 28 [.row nl [.int .i64] rs, .row nl2 [.int .i64] rs'] [] Q = (
br ((↑rs.length : Int) != (↑rs'.length : Int))
 (Q ((AV.bool false, [])))
 (((Hyp (rs' = rs ∧ (0 : Int) ≤ (0 : Int) ∧ (0 : Int) ≤ (↑rs.length : Int) ∧ rs.length ≤ (1000000 : Nat))) ∧
 (Q ((AV.bool true, [])))))) := by kernel_rfl
theorem nf51a (nl : Bool) (rs : List (List AV)) (m i : Int) (Q : Ex → List AV → List AObj → Prop) : lpBody Try.prog H0 T5 6 6 51 2 [.row nl [.int .i64, .int .i64, .str] rs, .fn (.func 50) [] [], .int .i64 m, .int .i64 i] [] Q = (
br (decide (i < m))
 (chk ((0 : Int) ≤ i ∧ i < (↑rs.length : Int)) (br (decide ((↑((rs.getD i.toNat []).getD (2 : Nat) AV.gone).toS.size : Int) > (1000 : Int)))
  (Q (Ex.ret) ([AV.int IntKind.i64 i]) ([]))
  (Q (Ex.nrm) ([AV.row nl [K.int IntKind.i64, K.int IntKind.i64, K.str] rs, AV.fn (Fn.func (50 : Nat)) [] [], AV.int IntKind.i64 m,
  AV.int IntKind.i64 (IntKind.i64.wrap (i + (1 : Int)))]) ([]))))
 (Q (Ex.exit (0 : Nat)) ([]) ([]))) := by kernel_rfl
theorem nf49 (nl : Bool) (rs : List (List AV)) (Q : AV × List AObj → Prop) : inlW Try.prog H0 T5L 6 (InO Try.prog H0 T5L 6 6) 49 [.row nl [.int .i64, .int .i64, .str] rs, .fn (.func 50) [] []] [] Q = (
((Hyp ((↑rs.length : Int) = (↑rs.length : Int) ∧
  (0 : Int) ≤ (0 : Int) ∧
    (0 : Int) ≤ (↑rs.length : Int) ∧
      rs.length ≤ (9223372036854775807 : Nat) ∧
        ∀ (r : List AV), r ∈ List.take (Int.toNat (0 : Int)) rs → ¬(1000 : Nat) < (actText r).size)) ∧
(((((s_long rs = false) →
Q ((AV.bool false, [])))) ∧
((∀ (j102 : Int),
(((0 : Int) ≤ j102) →
((s_long rs = true) →
Q ((AV.bool (decide (j102 ≥ (0 : Int))), [])))))))))) := by kernel_rfl
theorem nf40a (i : Int) (k a f t : Int) (b4 b5 : Bool) (r4 r5 : List (List AV)) (Q : Ex → List AV → List AObj → Prop) : lpBody Try.prog H0 T5 6 6 40 14 [.ptr 0 0, .int .i64 i] [.box [.int .i64 k, .int .i64 a, .int .i64 f, .int .i64 t, .row b4 [.int .i64, .int .i64, .str] r4, .row b5 [.int .i64] r5]] Q = (
br (decide (i < (↑r4.length : Int)))
 (chk ((0 : Int) ≤ i ∧ i < (↑r4.length : Int)) (br (decide ((↑((r4.getD i.toNat []).getD (2 : Nat) AV.gone).toS.size : Int) > (1000 : Int)))
  (Q (Ex.ret) ([AV.int IntKind.i64 (2 : Int)]) ([]))
  (Q (Ex.nrm) ([AV.ptr (0 : Nat) (0 : Nat), AV.int IntKind.i64 (IntKind.i64.wrap (i + (1 : Int)))]) ([AObj.box
    [AV.int IntKind.i64 k, AV.int IntKind.i64 a, AV.int IntKind.i64 f, AV.int IntKind.i64 t,
      AV.row b4 [K.int IntKind.i64, K.int IntKind.i64, K.str] r4, AV.row b5 [K.int IntKind.i64] r5]]))))
 (Q (Ex.exit (1 : Nat)) ([]) ([]))) := by kernel_rfl
theorem nf40 (n pi e g fi : Int) (nl : Bool) (ps : List (List AV)) (k a f t : Int) (b4 b5 : Bool) (r4 r5 : List (List AV)) (Q : AV × List AObj → Prop) : inlW Try.prog H0 T5L 6 (InO Try.prog H0 T5L 6 6) 40 [.agg [.int .i64 n, .int .i64 pi, .int .i64 e, .int .i64 g, .int .i64 fi, .row nl [.int .i64] ps], .agg [.int .i64 k, .int .i64 a, .int .i64 f, .int .i64 t, .row b4 [.int .i64, .int .i64, .str] r4, .row b5 [.int .i64] r5]] [] Q = (
br (k == (0 : Int))
 (br (decide (a < (0 : Int)))
  (Q ((AV.int IntKind.i64 (1 : Int), [])))
  (br (decide (a ≥ (1 : Int)))
   (Q ((AV.int IntKind.i64 (1 : Int), [])))
   (br (decide (f < (0 : Int)))
    (Q ((AV.int IntKind.i64 (1 : Int), [])))
    (br (decide (f > (1000 : Int)))
     (Q ((AV.int IntKind.i64 (1 : Int), [])))
     (br (decide (t < f))
      (Q ((AV.int IntKind.i64 (1 : Int), [])))
      (br (decide (t > (1000 : Int)))
       (Q ((AV.int IntKind.i64 (1 : Int), [])))
       (br (decide ((↑r4.length : Int) > (40 : Int)))
        (Q ((AV.int IntKind.i64 (2 : Int), [])))
        (br (decide ((↑r5.length : Int) > (40 : Int)))
         (Q ((AV.int IntKind.i64 (2 : Int), [])))
         (((Hyp ((0 : Int) ≤ (0 : Int) ∧
  (0 : Int) ≤ (↑r4.length : Int) ∧
    r4.length ≤ (9223372036854775807 : Nat) ∧
      ∀ (r : List AV), r ∈ List.take (Int.toNat (0 : Int)) r4 → ¬(1000 : Nat) < (actText r).size)) ∧
         (((((s_long r4 = false) →
         Q ((AV.int IntKind.i64 (0 : Int), [])))) ∧
         (((s_long r4 = true) →
         Q ((AV.int IntKind.i64 (2 : Int), []))))))))))))))))
 (br (k == (1 : Int))
  (br (decide (a < (0 : Int)))
   (Q ((AV.int IntKind.i64 (1 : Int), [])))
   (br (decide (a ≥ n))
    (Q ((AV.int IntKind.i64 (1 : Int), [])))
    (br (decide (f < (0 : Int)))
     (Q ((AV.int IntKind.i64 (1 : Int), [])))
     (br (decide (f > (1000 : Int)))
      (Q ((AV.int IntKind.i64 (1 : Int), [])))
      (br (decide (t < f))
       (Q ((AV.int IntKind.i64 (1 : Int), [])))
       (br (decide (t > (1000 : Int)))
        (Q ((AV.int IntKind.i64 (1 : Int), [])))
        (br (decide ((↑r4.length : Int) > (40 : Int)))
         (Q ((AV.int IntKind.i64 (2 : Int), [])))
         (br (decide ((↑r5.length : Int) > (40 : Int)))
          (Q ((AV.int IntKind.i64 (2 : Int), [])))
          (((Hyp ((0 : Int) ≤ (0 : Int) ∧
  (0 : Int) ≤ (↑r4.length : Int) ∧
    r4.length ≤ (9223372036854775807 : Nat) ∧
      ∀ (r : List AV), r ∈ List.take (Int.toNat (0 : Int)) r4 → ¬(1000 : Nat) < (actText r).size)) ∧
          (((((s_long r4 = false) →
          Q ((AV.int IntKind.i64 (0 : Int), [])))) ∧
          (((s_long r4 = true) →
          Q ((AV.int IntKind.i64 (2 : Int), []))))))))))))))))
  (br (k == (2 : Int))
   (br (decide (a < (0 : Int)))
    (Q ((AV.int IntKind.i64 (1 : Int), [])))
    (br (decide (a ≥ IntKind.i64.wrap ((2 : Int) * n)))
     (Q ((AV.int IntKind.i64 (1 : Int), [])))
     (br (decide (f < (0 : Int)))
      (Q ((AV.int IntKind.i64 (1 : Int), [])))
      (br (decide (f > (1000 : Int)))
       (Q ((AV.int IntKind.i64 (1 : Int), [])))
       (br (decide (t < f))
        (Q ((AV.int IntKind.i64 (1 : Int), [])))
        (br (decide (t > (1000 : Int)))
         (Q ((AV.int IntKind.i64 (1 : Int), [])))
         (br (decide ((↑r4.length : Int) > (40 : Int)))
          (Q ((AV.int IntKind.i64 (2 : Int), [])))
          (br (decide ((↑r5.length : Int) > (40 : Int)))
           (Q ((AV.int IntKind.i64 (2 : Int), [])))
           (((Hyp ((0 : Int) ≤ (0 : Int) ∧
  (0 : Int) ≤ (↑r4.length : Int) ∧
    r4.length ≤ (9223372036854775807 : Nat) ∧
      ∀ (r : List AV), r ∈ List.take (Int.toNat (0 : Int)) r4 → ¬(1000 : Nat) < (actText r).size)) ∧
           (((((s_long r4 = false) →
           Q ((AV.int IntKind.i64 (0 : Int), [])))) ∧
           (((s_long r4 = true) →
           Q ((AV.int IntKind.i64 (2 : Int), []))))))))))))))))
   (Q ((AV.int IntKind.i64 (6 : Int), [])))))) := by kernel_rfl
theorem nf46a (nl : Bool) (rs : List (List AV)) (m i : Int) (Q : Ex → List AV → List AObj → Prop) : lpBody Try.prog H0 T5 6 6 46 2 [.row nl [.int .i64] rs, .fn (.func 33) [] [], .int .i64 m, .int .i64 i] [] Q = (
br (decide (i < m))
 (chk ((0 : Int) ≤ i ∧ i < (↑rs.length : Int)) (br (!s_in ((rs.getD i.toNat []).getD (0 : Nat) AV.gone).toI (-1 : Int) (200 : Int))
  (Q (Ex.ret) ([AV.int IntKind.i64 i]) ([]))
  (Q (Ex.nrm) ([AV.row nl [K.int IntKind.i64] rs, AV.fn (Fn.func (33 : Nat)) [] [], AV.int IntKind.i64 m,
  AV.int IntKind.i64 (IntKind.i64.wrap (i + (1 : Int)))]) ([]))))
 (Q (Ex.exit (0 : Nat)) ([]) ([]))) := by kernel_rfl
theorem nf36 (nl : Bool) (rs : List (List AV)) (Q : AV × List AObj → Prop) : inlW Try.prog H0 T5L 6 (InO Try.prog H0 T5L 6 6) 36 [.row nl [.int .i64] rs, .fn (.func 33) [] []] [] Q = (
((Hyp ((↑rs.length : Int) = (↑rs.length : Int) ∧
  (0 : Int) ≤ (0 : Int) ∧
    (0 : Int) ≤ (↑rs.length : Int) ∧
      rs.length ≤ (9223372036854775807 : Nat) ∧ ∀ (r : List AV), r ∈ List.take (Int.toNat (0 : Int)) rs → s_on1 r = true)) ∧
(((((rs.all s_on1 = true) →
Q ((AV.bool false, [])))) ∧
((∀ (j102 : Int),
(((0 : Int) ≤ j102) →
((rs.all s_on1 = false) →
Q ((AV.bool (decide (j102 ≥ (0 : Int))), [])))))))))) := by kernel_rfl
theorem nf47a (nl2 : Bool) (rs : List (List AV)) (m i : Int) (n pi e g fi : Int) (nl : Bool) (ps : List (List AV)) (Q : Ex → List AV → List AObj → Prop) : lpBody Try.prog H0 T5 6 6 47 1002 [.row nl2 [.int .i64, .int .i64, .int .i64, .int .i64] rs, .fn (.func 35) [] [.ptr 0 0], .int .i64 m, .int .i64 i] [.box [.int .i64 n, .int .i64 pi, .int .i64 e, .int .i64 g, .int .i64 fi, .row nl [.int .i64] ps]] Q = (
br (decide (i < m))
 (chk ((0 : Int) ≤ i ∧ i < (↑rs.length : Int)) (br (!s_in ((rs.getD i.toNat []).getD (0 : Nat) AV.gone).toI (0 : Int) (200 : Int))
  (Q (Ex.ret) ([AV.int IntKind.i64 i]) ([AObj.box
    [AV.int IntKind.i64 n, AV.int IntKind.i64 pi, AV.int IntKind.i64 e, AV.int IntKind.i64 g, AV.int IntKind.i64 fi,
      AV.row nl [K.int IntKind.i64] ps]]))
  (br (!s_in ((rs.getD i.toNat []).getD (1 : Nat) AV.gone).toI (0 : Int) (IntKind.i64.wrap (n - (1 : Int))))
   (Q (Ex.ret) ([AV.int IntKind.i64 i]) ([AObj.box
    [AV.int IntKind.i64 n, AV.int IntKind.i64 pi, AV.int IntKind.i64 e, AV.int IntKind.i64 g, AV.int IntKind.i64 fi,
      AV.row nl [K.int IntKind.i64] ps]]))
   (br (!s_in ((rs.getD i.toNat []).getD (2 : Nat) AV.gone).toI (0 : Int) (↑ps.length : Int))
    (Q (Ex.ret) ([AV.int IntKind.i64 i]) ([AObj.box
    [AV.int IntKind.i64 n, AV.int IntKind.i64 pi, AV.int IntKind.i64 e, AV.int IntKind.i64 g, AV.int IntKind.i64 fi,
      AV.row nl [K.int IntKind.i64] ps]]))
    (Q (Ex.nrm) ([AV.row nl2 [K.int IntKind.i64, K.int IntKind.i64, K.int IntKind.i64, K.int IntKind.i64] rs,
  AV.fn (Fn.func (35 : Nat)) [] [AV.ptr (0 : Nat) (0 : Nat)], AV.int IntKind.i64 m,
  AV.int IntKind.i64 (IntKind.i64.wrap (i + (1 : Int)))]) ([AObj.box
    [AV.int IntKind.i64 n, AV.int IntKind.i64 pi, AV.int IntKind.i64 e, AV.int IntKind.i64 g, AV.int IntKind.i64 fi,
      AV.row nl [K.int IntKind.i64] ps]]))))))
 (Q (Ex.exit (0 : Nat)) ([]) ([AObj.box
    [AV.int IntKind.i64 n, AV.int IntKind.i64 pi, AV.int IntKind.i64 e, AV.int IntKind.i64 g, AV.int IntKind.i64 fi,
      AV.row nl [K.int IntKind.i64] ps]]))) := by kernel_rfl
theorem nf37 (nl2 : Bool) (rs : List (List AV)) (n pi e g fi : Int) (nl : Bool) (ps : List (List AV)) (Q : AV × List AObj → Prop) : inlW Try.prog H0 T5L 6 (InO Try.prog H0 T5L 6 6) 37 [.row nl2 [.int .i64, .int .i64, .int .i64, .int .i64] rs, .fn (.func 35) [] [.ptr 0 0]] [.box [.int .i64 n, .int .i64 pi, .int .i64 e, .int .i64 g, .int .i64 fi, .row nl [.int .i64] ps]] Q = (
((Hyp ((↑rs.length : Int) = (↑rs.length : Int) ∧
  (0 : Int) ≤ (0 : Int) ∧
    (0 : Int) ≤ (↑rs.length : Int) ∧
      rs.length ≤ (9223372036854775807 : Nat) ∧
        (0 : Int) ≤ n ∧
          n ≤ (1000000 : Int) ∧
            ∀ (r : List AV), r ∈ List.take (Int.toNat (0 : Int)) rs → s_ca1 n (↑ps.length : Int) r = true)) ∧
(((((rs.all (s_ca1 n (↑ps.length : Int)) = true) →
Q ((AV.bool false,
  [AObj.box
      [AV.int IntKind.i64 n, AV.int IntKind.i64 pi, AV.int IntKind.i64 e, AV.int IntKind.i64 g, AV.int IntKind.i64 fi,
        AV.row nl [K.int IntKind.i64] ps]])))) ∧
((∀ (j102 : Int),
(((0 : Int) ≤ j102) →
((rs.all (s_ca1 n (↑ps.length : Int)) = false) →
Q ((AV.bool (decide (j102 ≥ (0 : Int))),
  [AObj.box
      [AV.int IntKind.i64 n, AV.int IntKind.i64 pi, AV.int IntKind.i64 e, AV.int IntKind.i64 g, AV.int IntKind.i64 fi,
        AV.row nl [K.int IntKind.i64] ps]])))))))))) := by kernel_rfl
theorem nf16a (i : Int) (n pi e g fi : Int) (nl : Bool) (ps : List (List AV)) (b0 b1 b2 b3 b4 b5 : Bool) (r0 r1 r2 r3 r4 r5 : List (List AV)) (k a f t z : Int) (Q : Ex → List AV → List AObj → Prop) : lpBody Try.prog H0 T5 6 6 16 6 [.ptr 0 0, .ptr 1 0, .int .i64 i] [.box [.int .i64 n, .int .i64 pi, .int .i64 e, .int .i64 g, .int .i64 fi, .row nl [.int .i64] ps], .box [.row b0 [.int .i64] r0, .row b1 [.int .i64] r1, .row b2 [.int .i64] r2, .row b3 [.int .i64, .int .i64, .int .i64, .int .i64] r3, .int .i64 k, .int .i64 a, .int .i64 f, .int .i64 t, .row b4 [.int .i64, .int .i64, .str] r4, .row b5 [.int .i64] r5, .int .i64 z]] Q = (
br (decide (i < (↑r0.length : Int)))
 (chk ((0 : Int) ≤ i ∧ i < (↑r0.length : Int)) (br (decide (((r0.getD i.toNat []).getD (0 : Nat) AV.gone).toI < (-1 : Int)))
  (Q (Ex.ret) ([AV.int IntKind.i64 (1 : Int)]) ([]))
  (chk ((0 : Int) ≤ i ∧ i < (↑r0.length : Int)) (br (decide (((r0.getD i.toNat []).getD (0 : Nat) AV.gone).toI > (200 : Int)))
   (Q (Ex.ret) ([AV.int IntKind.i64 (1 : Int)]) ([]))
   (Q (Ex.nrm) ([AV.ptr (0 : Nat) (0 : Nat), AV.ptr (1 : Nat) (0 : Nat), AV.int IntKind.i64 (IntKind.i64.wrap (i + (1 : Int)))]) ([AObj.box
    [AV.int IntKind.i64 n, AV.int IntKind.i64 pi, AV.int IntKind.i64 e, AV.int IntKind.i64 g, AV.int IntKind.i64 fi,
      AV.row nl [K.int IntKind.i64] ps],
  AObj.box
    [AV.row b0 [K.int IntKind.i64] r0, AV.row b1 [K.int IntKind.i64] r1, AV.row b2 [K.int IntKind.i64] r2,
      AV.row b3 [K.int IntKind.i64, K.int IntKind.i64, K.int IntKind.i64, K.int IntKind.i64] r3, AV.int IntKind.i64 k,
      AV.int IntKind.i64 a, AV.int IntKind.i64 f, AV.int IntKind.i64 t,
      AV.row b4 [K.int IntKind.i64, K.int IntKind.i64, K.str] r4, AV.row b5 [K.int IntKind.i64] r5,
      AV.int IntKind.i64 z]]))))))
 (Q (Ex.exit (0 : Nat)) ([AV.ptr (0 : Nat) (0 : Nat), AV.ptr (1 : Nat) (0 : Nat)]) ([AObj.box
    [AV.int IntKind.i64 n, AV.int IntKind.i64 pi, AV.int IntKind.i64 e, AV.int IntKind.i64 g, AV.int IntKind.i64 fi,
      AV.row nl [K.int IntKind.i64] ps],
  AObj.box
    [AV.row b0 [K.int IntKind.i64] r0, AV.row b1 [K.int IntKind.i64] r1, AV.row b2 [K.int IntKind.i64] r2,
      AV.row b3 [K.int IntKind.i64, K.int IntKind.i64, K.int IntKind.i64, K.int IntKind.i64] r3, AV.int IntKind.i64 k,
      AV.int IntKind.i64 a, AV.int IntKind.i64 f, AV.int IntKind.i64 t,
      AV.row b4 [K.int IntKind.i64, K.int IntKind.i64, K.str] r4, AV.row b5 [K.int IntKind.i64] r5,
      AV.int IntKind.i64 z]]))) := by kernel_rfl
theorem nf16b (i : Int) (n pi e g fi : Int) (nl : Bool) (ps : List (List AV)) (b0 b1 b2 b3 b4 b5 : Bool) (r0 r1 r2 r3 r4 r5 : List (List AV)) (k a f t z : Int) (Q : Ex → List AV → List AObj → Prop) : lpBody Try.prog H0 T5 6 6 16 11 [.ptr 0 0, .ptr 1 0, .int .i64 i] [.box [.int .i64 n, .int .i64 pi, .int .i64 e, .int .i64 g, .int .i64 fi, .row nl [.int .i64] ps], .box [.row b0 [.int .i64] r0, .row b1 [.int .i64] r1, .row b2 [.int .i64] r2, .row b3 [.int .i64, .int .i64, .int .i64, .int .i64] r3, .int .i64 k, .int .i64 a, .int .i64 f, .int .i64 t, .row b4 [.int .i64, .int .i64, .str] r4, .row b5 [.int .i64] r5, .int .i64 z]] Q = (
br (decide (i < (↑r3.length : Int)))
 (chk ((0 : Int) ≤ i ∧ i < (↑r3.length : Int)) (br (decide (((r3.getD i.toNat []).getD (0 : Nat) AV.gone).toI < (0 : Int)))
  (Q (Ex.ret) ([AV.int IntKind.i64 (1 : Int)]) ([]))
  (br (decide (((r3.getD i.toNat []).getD (0 : Nat) AV.gone).toI > (200 : Int)))
   (Q (Ex.ret) ([AV.int IntKind.i64 (1 : Int)]) ([]))
   (br (decide (((r3.getD i.toNat []).getD (1 : Nat) AV.gone).toI < (0 : Int)))
    (Q (Ex.ret) ([AV.int IntKind.i64 (1 : Int)]) ([]))
    (br (decide (((r3.getD i.toNat []).getD (1 : Nat) AV.gone).toI ≥ n))
     (Q (Ex.ret) ([AV.int IntKind.i64 (1 : Int)]) ([]))
     (br (decide (((r3.getD i.toNat []).getD (2 : Nat) AV.gone).toI < (0 : Int)))
      (Q (Ex.ret) ([AV.int IntKind.i64 (1 : Int)]) ([]))
      (br (decide (((r3.getD i.toNat []).getD (2 : Nat) AV.gone).toI > (↑ps.length : Int)))
       (Q (Ex.ret) ([AV.int IntKind.i64 (1 : Int)]) ([]))
       (Q (Ex.nrm) ([AV.ptr (0 : Nat) (0 : Nat), AV.ptr (1 : Nat) (0 : Nat), AV.int IntKind.i64 (IntKind.i64.wrap (i + (1 : Int)))]) ([AObj.box
    [AV.int IntKind.i64 n, AV.int IntKind.i64 pi, AV.int IntKind.i64 e, AV.int IntKind.i64 g, AV.int IntKind.i64 fi,
      AV.row nl [K.int IntKind.i64] ps],
  AObj.box
    [AV.row b0 [K.int IntKind.i64] r0, AV.row b1 [K.int IntKind.i64] r1, AV.row b2 [K.int IntKind.i64] r2,
      AV.row b3 [K.int IntKind.i64, K.int IntKind.i64, K.int IntKind.i64, K.int IntKind.i64] r3, AV.int IntKind.i64 k,
      AV.int IntKind.i64 a, AV.int IntKind.i64 f, AV.int IntKind.i64 t,
      AV.row b4 [K.int IntKind.i64, K.int IntKind.i64, K.str] r4, AV.row b5 [K.int IntKind.i64] r5,
      AV.int IntKind.i64 z]])))))))))
 (Q (Ex.exit (2 : Nat)) ([AV.ptr (0 : Nat) (0 : Nat), AV.ptr (1 : Nat) (0 : Nat)]) ([AObj.box
    [AV.int IntKind.i64 n, AV.int IntKind.i64 pi, AV.int IntKind.i64 e, AV.int IntKind.i64 g, AV.int IntKind.i64 fi,
      AV.row nl [K.int IntKind.i64] ps],
  AObj.box
    [AV.row b0 [K.int IntKind.i64] r0, AV.row b1 [K.int IntKind.i64] r1, AV.row b2 [K.int IntKind.i64] r2,
      AV.row b3 [K.int IntKind.i64, K.int IntKind.i64, K.int IntKind.i64, K.int IntKind.i64] r3, AV.int IntKind.i64 k,
      AV.int IntKind.i64 a, AV.int IntKind.i64 f, AV.int IntKind.i64 t,
      AV.row b4 [K.int IntKind.i64, K.int IntKind.i64, K.str] r4, AV.row b5 [K.int IntKind.i64] r5,
      AV.int IntKind.i64 z]]))) := by kernel_rfl
theorem nf12a (i : Int) (b0 b1 b2 b3 b4 b5 : Bool) (r0 r1 r2 r3 r4 r5 : List (List AV)) (k a f t z : Int) (b0' b1' b2' b3' b4' b5' : Bool) (r0' r1' r2' r3' r4' r5' : List (List AV)) (k' a' f' t' z' : Int) (Q : Ex → List AV → List AObj → Prop) : lpBody Try.prog H0 T6 6 6 12 4 [.ptr 0 0, .ptr 1 0, .int .i64 i] [.box [.row b0 [.int .i64] r0, .row b1 [.int .i64] r1, .row b2 [.int .i64] r2, .row b3 [.int .i64, .int .i64, .int .i64, .int .i64] r3, .int .i64 k, .int .i64 a, .int .i64 f, .int .i64 t, .row b4 [.int .i64, .int .i64, .str] r4, .row b5 [.int .i64] r5, .int .i64 z], .box [.row b0' [.int .i64] r0', .row b1' [.int .i64] r1', .row b2' [.int .i64] r2', .row b3' [.int .i64, .int .i64, .int .i64, .int .i64] r3', .int .i64 k', .int .i64 a', .int .i64 f', .int .i64 t', .row b4' [.int .i64, .int .i64, .str] r4', .row b5' [.int .i64] r5', .int .i64 z']] Q = (
br (decide (i < (↑r3.length : Int)))
 (chk ((0 : Int) ≤ i ∧ i < (↑r3.length : Int)) (chk ((0 : Int) ≤ i ∧ i < (↑r3'.length : Int)) (br (!(((r3.getD i.toNat []).getD (0 : Nat) AV.gone).toI == ((r3'.getD i.toNat []).getD (0 : Nat) AV.gone).toI &&
    (((r3.getD i.toNat []).getD (1 : Nat) AV.gone).toI == ((r3'.getD i.toNat []).getD (1 : Nat) AV.gone).toI &&
      (((r3.getD i.toNat []).getD (2 : Nat) AV.gone).toI == ((r3'.getD i.toNat []).getD (2 : Nat) AV.gone).toI &&
        (((r3.getD i.toNat []).getD (3 : Nat) AV.gone).toI == ((r3'.getD i.toNat []).getD (3 : Nat) AV.gone).toI &&
          true)))))
  (Q (Ex.ret) ([AV.bool false]) ([]))
  (Q (Ex.nrm) ([AV.ptr (0 : Nat) (0 : Nat), AV.ptr (1 : Nat) (0 : Nat), AV.int IntKind.i64 (IntKind.i64.wrap (i + (1 : Int)))]) ([AObj.box
    [AV.row b0 [K.int IntKind.i64] r0, AV.row b1 [K.int IntKind.i64] r1, AV.row b2 [K.int IntKind.i64] r2,
      AV.row b3 [K.int IntKind.i64, K.int IntKind.i64, K.int IntKind.i64, K.int IntKind.i64] r3, AV.int IntKind.i64 k,
      AV.int IntKind.i64 a, AV.int IntKind.i64 f, AV.int IntKind.i64 t,
      AV.row b4 [K.int IntKind.i64, K.int IntKind.i64, K.str] r4, AV.row b5 [K.int IntKind.i64] r5,
      AV.int IntKind.i64 z],
  AObj.box
    [AV.row b0' [K.int IntKind.i64] r0', AV.row b1' [K.int IntKind.i64] r1', AV.row b2' [K.int IntKind.i64] r2',
      AV.row b3' [K.int IntKind.i64, K.int IntKind.i64, K.int IntKind.i64, K.int IntKind.i64] r3',
      AV.int IntKind.i64 k', AV.int IntKind.i64 a', AV.int IntKind.i64 f', AV.int IntKind.i64 t',
      AV.row b4' [K.int IntKind.i64, K.int IntKind.i64, K.str] r4', AV.row b5' [K.int IntKind.i64] r5',
      AV.int IntKind.i64 z']])))))
 (Q (Ex.exit (0 : Nat)) ([AV.ptr (0 : Nat) (0 : Nat), AV.ptr (1 : Nat) (0 : Nat)]) ([AObj.box
    [AV.row b0 [K.int IntKind.i64] r0, AV.row b1 [K.int IntKind.i64] r1, AV.row b2 [K.int IntKind.i64] r2,
      AV.row b3 [K.int IntKind.i64, K.int IntKind.i64, K.int IntKind.i64, K.int IntKind.i64] r3, AV.int IntKind.i64 k,
      AV.int IntKind.i64 a, AV.int IntKind.i64 f, AV.int IntKind.i64 t,
      AV.row b4 [K.int IntKind.i64, K.int IntKind.i64, K.str] r4, AV.row b5 [K.int IntKind.i64] r5,
      AV.int IntKind.i64 z],
  AObj.box
    [AV.row b0' [K.int IntKind.i64] r0', AV.row b1' [K.int IntKind.i64] r1', AV.row b2' [K.int IntKind.i64] r2',
      AV.row b3' [K.int IntKind.i64, K.int IntKind.i64, K.int IntKind.i64, K.int IntKind.i64] r3',
      AV.int IntKind.i64 k', AV.int IntKind.i64 a', AV.int IntKind.i64 f', AV.int IntKind.i64 t',
      AV.row b4' [K.int IntKind.i64, K.int IntKind.i64, K.str] r4', AV.row b5' [K.int IntKind.i64] r5',
      AV.int IntKind.i64 z']]))) := by kernel_rfl
theorem nf12b (i : Int) (b0 b1 b2 b3 b4 b5 : Bool) (r0 r1 r2 r3 r4 r5 : List (List AV)) (k a f t z : Int) (b0' b1' b2' b3' b4' b5' : Bool) (r0' r1' r2' r3' r4' r5' : List (List AV)) (k' a' f' t' z' : Int) (Q : Ex → List AV → List AObj → Prop) : lpBody Try.prog H0 T6 6 6 12 9 [.ptr 0 0, .ptr 1 0, .int .i64 i] [.box [.row b0 [.int .i64] r0, .row b1 [.int .i64] r1, .row b2 [.int .i64] r2, .row b3 [.int .i64, .int .i64, .int .i64, .int .i64] r3, .int .i64 k, .int .i64 a, .int .i64 f, .int .i64 t, .row b4 [.int .i64, .int .i64, .str] r4, .row b5 [.int .i64] r5, .int .i64 z], .box [.row b0' [.int .i64] r0', .row b1' [.int .i64] r1', .row b2' [.int .i64] r2', .row b3' [.int .i64, .int .i64, .int .i64, .int .i64] r3', .int .i64 k', .int .i64 a', .int .i64 f', .int .i64 t', .row b4' [.int .i64, .int .i64, .str] r4', .row b5' [.int .i64] r5', .int .i64 z']] Q = (
br (decide (i < (↑r4.length : Int)))
 (chk ((0 : Int) ≤ i ∧ i < (↑r4.length : Int)) (chk ((0 : Int) ≤ i ∧ i < (↑r4'.length : Int)) (br (!(((r4.getD i.toNat []).getD (0 : Nat) AV.gone).toI == ((r4'.getD i.toNat []).getD (0 : Nat) AV.gone).toI &&
    (((r4.getD i.toNat []).getD (1 : Nat) AV.gone).toI == ((r4'.getD i.toNat []).getD (1 : Nat) AV.gone).toI &&
      (((r4.getD i.toNat []).getD (2 : Nat) AV.gone).toS.toList ==
          ((r4'.getD i.toNat []).getD (2 : Nat) AV.gone).toS.toList &&
        true))))
  (Q (Ex.ret) ([AV.bool false]) ([]))
  (Q (Ex.nrm) ([AV.ptr (0 : Nat) (0 : Nat), AV.ptr (1 : Nat) (0 : Nat), AV.int IntKind.i64 (IntKind.i64.wrap (i + (1 : Int)))]) ([AObj.box
    [AV.row b0 [K.int IntKind.i64] r0, AV.row b1 [K.int IntKind.i64] r1, AV.row b2 [K.int IntKind.i64] r2,
      AV.row b3 [K.int IntKind.i64, K.int IntKind.i64, K.int IntKind.i64, K.int IntKind.i64] r3, AV.int IntKind.i64 k,
      AV.int IntKind.i64 a, AV.int IntKind.i64 f, AV.int IntKind.i64 t,
      AV.row b4 [K.int IntKind.i64, K.int IntKind.i64, K.str] r4, AV.row b5 [K.int IntKind.i64] r5,
      AV.int IntKind.i64 z],
  AObj.box
    [AV.row b0' [K.int IntKind.i64] r0', AV.row b1' [K.int IntKind.i64] r1', AV.row b2' [K.int IntKind.i64] r2',
      AV.row b3' [K.int IntKind.i64, K.int IntKind.i64, K.int IntKind.i64, K.int IntKind.i64] r3',
      AV.int IntKind.i64 k', AV.int IntKind.i64 a', AV.int IntKind.i64 f', AV.int IntKind.i64 t',
      AV.row b4' [K.int IntKind.i64, K.int IntKind.i64, K.str] r4', AV.row b5' [K.int IntKind.i64] r5',
      AV.int IntKind.i64 z']])))))
 (Q (Ex.exit (2 : Nat)) ([AV.ptr (0 : Nat) (0 : Nat), AV.ptr (1 : Nat) (0 : Nat)]) ([AObj.box
    [AV.row b0 [K.int IntKind.i64] r0, AV.row b1 [K.int IntKind.i64] r1, AV.row b2 [K.int IntKind.i64] r2,
      AV.row b3 [K.int IntKind.i64, K.int IntKind.i64, K.int IntKind.i64, K.int IntKind.i64] r3, AV.int IntKind.i64 k,
      AV.int IntKind.i64 a, AV.int IntKind.i64 f, AV.int IntKind.i64 t,
      AV.row b4 [K.int IntKind.i64, K.int IntKind.i64, K.str] r4, AV.row b5 [K.int IntKind.i64] r5,
      AV.int IntKind.i64 z],
  AObj.box
    [AV.row b0' [K.int IntKind.i64] r0', AV.row b1' [K.int IntKind.i64] r1', AV.row b2' [K.int IntKind.i64] r2',
      AV.row b3' [K.int IntKind.i64, K.int IntKind.i64, K.int IntKind.i64, K.int IntKind.i64] r3',
      AV.int IntKind.i64 k', AV.int IntKind.i64 a', AV.int IntKind.i64 f', AV.int IntKind.i64 t',
      AV.row b4' [K.int IntKind.i64, K.int IntKind.i64, K.str] r4', AV.row b5' [K.int IntKind.i64] r5',
      AV.int IntKind.i64 z']]))) := by kernel_rfl
theorem nf12 (b0 b1 b2 b3 b4 b5 : Bool) (r0 r1 r2 r3 r4 r5 : List (List AV)) (k a f t z : Int) (b0' b1' b2' b3' b4' b5' : Bool) (r0' r1' r2' r3' r4' r5' : List (List AV)) (k' a' f' t' z' : Int) (Q : AV × List AObj → Prop) : inlW Try.prog H0 T6L 6 (InO Try.prog H0 T6L 6 6) 12 [.agg [.row b0 [.int .i64] r0, .row b1 [.int .i64] r1, .row b2 [.int .i64] r2, .row b3 [.int .i64, .int .i64, .int .i64, .int .i64] r3, .int .i64 k, .int .i64 a, .int .i64 f, .int .i64 t, .row b4 [.int .i64, .int .i64, .str] r4, .row b5 [.int .i64] r5, .int .i64 z], .agg [.row b0' [.int .i64] r0', .row b1' [.int .i64] r1', .row b2' [.int .i64] r2', .row b3' [.int .i64, .int .i64, .int .i64, .int .i64] r3', .int .i64 k', .int .i64 a', .int .i64 f', .int .i64 t', .row b4' [.int .i64, .int .i64, .str] r4', .row b5' [.int .i64] r5', .int .i64 z']] [] Q = (
br (z != z')
 (Q ((AV.bool false, [])))
 (((Hyp (r0' = r0 ∧ r0.length ≤ (1000000 : Nat))) ∧
 (((Hyp (r1' = r1 ∧ r1.length ≤ (1000000 : Nat))) ∧
 (((Hyp (r2' = r2 ∧ r2.length ≤ (1000000 : Nat))) ∧
 (br ((↑r3.length : Int) != (↑r3'.length : Int))
  (Q ((AV.bool false, [])))
  (br ((↑r4.length : Int) != (↑r4'.length : Int))
   (Q ((AV.bool false, [])))
   (((Hyp (r3' = r3 ∧ (0 : Int) ≤ (0 : Int) ∧ (0 : Int) ≤ (↑r3.length : Int) ∧ r3.length ≤ (1000000 : Nat))) ∧
   (((Hyp (r4' = r4 ∧ (0 : Int) ≤ (0 : Int) ∧ (0 : Int) ≤ (↑r4.length : Int) ∧ r4.length ≤ (1000000 : Nat))) ∧
   (br (k == k')
    (br (a == a')
     (br (f == f')
      (br (t == t')
       (((Hyp (r5' = r5 ∧ r5.length ≤ (1000000 : Nat))) ∧
       (Q ((AV.bool true, [])))))
       (Q ((AV.bool false, []))))
      (Q ((AV.bool false, []))))
     (Q ((AV.bool false, []))))
    (Q ((AV.bool false, []))))))))))))))))) := by kernel_rfl
theorem nf38 (n pi e g fi : Int) (nl : Bool) (ps : List (List AV)) (k a f t : Int) (b4 b5 : Bool) (r4 r5 : List (List AV)) (Q : AV × List AObj → Prop) : inlW Try.prog H0 T6L 6 (InO Try.prog H0 T6L 6 6) 38 [.agg [.int .i64 n, .int .i64 pi, .int .i64 e, .int .i64 g, .int .i64 fi, .row nl [.int .i64] ps], .agg [.int .i64 k, .int .i64 a, .int .i64 f, .int .i64 t, .row b4 [.int .i64, .int .i64, .str] r4, .row b5 [.int .i64] r5]] [] Q = (
br (decide (k < (0 : Int)))
 (Q ((AV.int IntKind.i64 (6 : Int), [])))
 (br (decide (k > (2 : Int)))
  (Q ((AV.int IntKind.i64 (6 : Int), [])))
  (br (decide (a < (0 : Int)))
   (Q ((AV.int IntKind.i64 (1 : Int), [])))
   (br (k == (1 : Int))
    (br (decide (a ≥ n))
     (Q ((AV.int IntKind.i64 (1 : Int), [])))
     (br (decide (f < (0 : Int)))
      (Q ((AV.int IntKind.i64 (1 : Int), [])))
      (br (decide (t > (1000 : Int)))
       (Q ((AV.int IntKind.i64 (1 : Int), [])))
       (br (decide (t < f))
        (Q ((AV.int IntKind.i64 (1 : Int), [])))
        (br (decide ((↑r4.length : Int) > (40 : Int)))
         (Q ((AV.int IntKind.i64 (2 : Int), [])))
         (br (decide ((↑r5.length : Int) > (40 : Int)))
          (Q ((AV.int IntKind.i64 (2 : Int), [])))
          (((Hyp (r4.length ≤ (9223372036854775807 : Nat))) ∧
          (br (s_long r4)
           (Q ((AV.int IntKind.i64 (2 : Int), [])))
           (Q ((AV.int IntKind.i64 (0 : Int), []))))))))))))
    (br (k == (2 : Int))
     (br (decide (a ≥ IntKind.i64.wrap ((2 : Int) * n)))
      (Q ((AV.int IntKind.i64 (1 : Int), [])))
      (br (decide (f < (0 : Int)))
       (Q ((AV.int IntKind.i64 (1 : Int), [])))
       (br (decide (t > (1000 : Int)))
        (Q ((AV.int IntKind.i64 (1 : Int), [])))
        (br (decide (t < f))
         (Q ((AV.int IntKind.i64 (1 : Int), [])))
         (br (decide ((↑r4.length : Int) > (40 : Int)))
          (Q ((AV.int IntKind.i64 (2 : Int), [])))
          (br (decide ((↑r5.length : Int) > (40 : Int)))
           (Q ((AV.int IntKind.i64 (2 : Int), [])))
           (((Hyp (r4.length ≤ (9223372036854775807 : Nat))) ∧
           (br (s_long r4)
            (Q ((AV.int IntKind.i64 (2 : Int), [])))
            (Q ((AV.int IntKind.i64 (0 : Int), []))))))))))))
     (br (decide (a ≥ (1 : Int)))
      (Q ((AV.int IntKind.i64 (1 : Int), [])))
      (br (decide (f < (0 : Int)))
       (Q ((AV.int IntKind.i64 (1 : Int), [])))
       (br (decide (t > (1000 : Int)))
        (Q ((AV.int IntKind.i64 (1 : Int), [])))
        (br (decide (t < f))
         (Q ((AV.int IntKind.i64 (1 : Int), [])))
         (br (decide ((↑r4.length : Int) > (40 : Int)))
          (Q ((AV.int IntKind.i64 (2 : Int), [])))
          (br (decide ((↑r5.length : Int) > (40 : Int)))
           (Q ((AV.int IntKind.i64 (2 : Int), [])))
           (((Hyp (r4.length ≤ (9223372036854775807 : Nat))) ∧
           (br (s_long r4)
            (Q ((AV.int IntKind.i64 (2 : Int), [])))
            (Q ((AV.int IntKind.i64 (0 : Int), []))))))))))))))))) := by kernel_rfl
theorem nf14 (n pi e g fi : Int) (nl : Bool) (ps : List (List AV)) (b0 b1 b2 b3 b4 b5 : Bool) (r0 r1 r2 r3 r4 r5 : List (List AV)) (k a f t z : Int) (Q : AV × List AObj → Prop) : inlW Try.prog H0 T7L 6 (InO Try.prog H0 T7L 6 6) 14 [.agg [.int .i64 n, .int .i64 pi, .int .i64 e, .int .i64 g, .int .i64 fi, .row nl [.int .i64] ps], .agg [.row b0 [.int .i64] r0, .row b1 [.int .i64] r1, .row b2 [.int .i64] r2, .row b3 [.int .i64, .int .i64, .int .i64, .int .i64] r3, .int .i64 k, .int .i64 a, .int .i64 f, .int .i64 t, .row b4 [.int .i64, .int .i64, .str] r4, .row b5 [.int .i64] r5, .int .i64 z]] [] Q = (
br (!s_in z (0 : Int) (200 : Int))
 (Q ((AV.int IntKind.i64 (1 : Int), [])))
 (br ((↑r0.length : Int) != n)
  (Q ((AV.int IntKind.i64 (2 : Int), [])))
  (br (decide ((↑r1.length : Int) > (60 : Int)))
   (Q ((AV.int IntKind.i64 (2 : Int), [])))
   (br (decide ((↑r2.length : Int) > (60 : Int)))
    (Q ((AV.int IntKind.i64 (2 : Int), [])))
    (br (decide ((↑r3.length : Int) > (100 : Int)))
     (Q ((AV.int IntKind.i64 (2 : Int), [])))
     (((Hyp (r0.length ≤ (9223372036854775807 : Nat))) ∧
     ((∀ (b106 : Bool),
     ((b106 = !r0.all s_on1) →
     br (b106)
      (Q ((AV.int IntKind.i64 (1 : Int), [])))
      (((Hyp (r3.length ≤ (9223372036854775807 : Nat) ∧ (0 : Int) ≤ n ∧ n ≤ (1000000 : Int))) ∧
      ((∀ (b110 : Bool),
      ((b110 = !r3.all (s_ca1 n (↑ps.length : Int))) →
      br (b110)
       (Q ((AV.int IntKind.i64 (1 : Int), [])))
       (((Hyp ((0 : Int) ≤ n ∧ n ≤ (1000000 : Int) ∧ r4.length ≤ (9223372036854775807 : Nat))) ∧
       (Q ((AV.int IntKind.i64 (s_fcheck n k a f t r4 r5), [])))))))))))))))))))) := by kernel_rfl
theorem nf16 (n pi e g fi : Int) (nl : Bool) (ps : List (List AV)) (b0 b1 b2 b3 b4 b5 : Bool) (r0 r1 r2 r3 r4 r5 : List (List AV)) (k a f t z : Int) (Q : AV × List AObj → Prop) : inlW Try.prog H0 T7L 6 (InO Try.prog H0 T7L 6 6) 16 [.agg [.int .i64 n, .int .i64 pi, .int .i64 e, .int .i64 g, .int .i64 fi, .row nl [.int .i64] ps], .agg [.row b0 [.int .i64] r0, .row b1 [.int .i64] r1, .row b2 [.int .i64] r2, .row b3 [.int .i64, .int .i64, .int .i64, .int .i64] r3, .int .i64 k, .int .i64 a, .int .i64 f, .int .i64 t, .row b4 [.int .i64, .int .i64, .str] r4, .row b5 [.int .i64] r5, .int .i64 z]] [] Q = (
br (decide (z < (0 : Int)))
 (Q ((AV.int IntKind.i64 (1 : Int), [])))
 (br (decide (z > (200 : Int)))
  (Q ((AV.int IntKind.i64 (1 : Int), [])))
  (br ((↑r0.length : Int) != n)
   (Q ((AV.int IntKind.i64 (2 : Int), [])))
   (br (decide ((↑r1.length : Int) > (60 : Int)))
    (Q ((AV.int IntKind.i64 (2 : Int), [])))
    (br (decide ((↑r2.length : Int) > (60 : Int)))
     (Q ((AV.int IntKind.i64 (2 : Int), [])))
     (br (decide ((↑r3.length : Int) > (100 : Int)))
      (Q ((AV.int IntKind.i64 (2 : Int), [])))
      (((Hyp ((0 : Int) ≤ (0 : Int) ∧
  (0 : Int) ≤ (↑r0.length : Int) ∧
    r0.length ≤ (9223372036854775807 : Nat) ∧ ∀ (r : List AV), r ∈ List.take (Int.toNat (0 : Int)) r0 → s_on1 r = true)) ∧
      (((((r0.all s_on1 = true) →
      ((Hyp ((0 : Int) ≤ (0 : Int) ∧
  (0 : Int) ≤ (↑r3.length : Int) ∧
    r3.length ≤ (9223372036854775807 : Nat) ∧
      ∀ (r : List AV), r ∈ List.take (Int.toNat (0 : Int)) r3 → s_ca1 n (↑ps.length : Int) r = true)) ∧
      (((((r3.all (s_ca1 n (↑ps.length : Int)) = true) →
      ((Hyp ((0 : Int) ≤ n ∧ n ≤ (1000000 : Int) ∧ r4.length ≤ (9223372036854775807 : Nat))) ∧
      (Q ((AV.int IntKind.i64 (s_fcheck n k a f t r4 r5), [])))))) ∧
      (((r3.all (s_ca1 n (↑ps.length : Int)) = false) →
      Q ((AV.int IntKind.i64 (1 : Int), []))))))))) ∧
      (((r0.all s_on1 = false) →
      Q ((AV.int IntKind.i64 (1 : Int), [])))))))))))))) := by kernel_rfl
theorem nf34 (x a b : Int) (Q : AV × List AObj → Prop) : inlW Try.prog H0 T4 6 (InO Try.prog H0 T4 6 6) 34 [.int .i64 x, .int .i64 a, .int .i64 b] [] Q = (
br (decide (x ≥ a))
 (Q ((AV.bool (decide (x ≤ b)), [])))
 (Q ((AV.bool false, [])))) := by kernel_rfl
end Go.Proofs.YthihinlamlamhaaE
/- ScriptOf, ScriptChecks: the specs hold. -/
namespace Go.Proofs.YthihinlamlamhaaE
open Go
set_option linter.unusedVariables false
set_option linter.unusedSimpArgs false
set_option maxRecDepth 100000

theorem okT5of (h13 : OkS Try.prog H0 13 sOfW) (h34 : OkS Try.prog H0 34 sIn) : OkSp Try.prog H0 T5 := ⟨⟨h13, h34, okT3.fn⟩, trivial⟩
theorem ok34 : OkS Try.prog H0 34 sIn := by
  intro args h Q hq
  unfold sIn at hq
  split at hq
  · rename_i x a b
    refine in_ok (S := T4) (U := 6) (k := 6) okT4 (to (nf34 ..) (br_intro (fun c => ?_) fun c => ?_))
    · rwa [show s_in x a b = decide (x ≤ b) by unfold s_in; rw [show decide (a ≤ x) = true from c]; rfl] at hq
    · rwa [show s_in x a b = false by unfold s_in; rw [show decide (a ≤ x) = false from c]; rfl] at hq
  · exact hq.elim
theorem ic8 (a : Nat) : (a : Int) + 8 = ((a + 8 : Nat) : Int) := rfl
theorem ic4 (a : Nat) : (a : Int) + 4 = ((a + 4 : Nat) : Int) := rfl
theorem ic1 (a : Nat) : (a : Int) + 1 = ((a + 1 : Nat) : Int) := rfl
theorem icA (a b : Nat) : (a : Int) + (b : Int) = ((a + b : Nat) : Int) := rfl
theorem actsN_le {rs : List (List AV)} (hb : s_bytes rs) : ∀ k : Nat, s_actsN rs k ≤ 6 * k := by
  intro k
  induction k generalizing rs with
  | zero => simp [s_actsN]
  | succ k ih =>
    have h1 := at_mod hb 2 (show (0 : Int) < 4 by omega)
    have h2 := ih (bytes_drop (s_actN rs) hb)
    simp only [s_actsN]
    have h3 : s_actN rs ≤ 6 := by unfold s_actN; omega
    omega
theorem fN_eq (F : Nat) (rs : List (List AV)) : F + 1 + 1 + 1 + 1 + 1 + s_actsN (s_drop (F + 1 + 1 + 1 + 1 + 1) rs) ((s_at rs (F + 1 + 1 + 1 + 1)).tmod 8).toNat = F + s_fN (s_drop F rs) := by
  unfold s_fN s_fA
  rw [dd, at_drop]
  show F + 5 + s_actsN (s_drop (F + 5) rs) ((s_at rs (F + 4)).tmod 8).toNat = _
  omega
theorem ok13 : OkS Try.prog H0 13 sOfW := by
  intro args h Q hq
  unfold sOfW at hq
  split at hq
  · rename_i n pi e g fi nl ps nl2 rs
    obtain ⟨⟨hc, hb, hnl, hrl⟩, hQ⟩ := hyp_iff.1 hq
    clear hq
    obtain ⟨hn1, hn2, hpl⟩ := confOk_n hc
    have hpl : ps.length ≤ 3 := by simpa [ints] using hpl
    obtain ⟨N, rfl⟩ : ∃ N : Nat, n = N := ⟨n.toNat, by omega⟩
    refine in_ok (S := T4) (U := 6) (k := 6) okT4 (to (nf13 ..) ?_)
    simp only [ic8, ic1, ic4, icA, Int.toNat_natCast] at hQ ⊢
    have hF1 := fN_eq (N + 8 + 8) rs
    have hF2 : s_fN (s_drop (N + 8 + 8) rs) ≤ 53 := by
      have h1 := actsN_le (bytes_drop (N + 8 + 8 + 1 + 1 + 1 + 1 + 1) hb) ((s_at rs (N + 8 + 8 + 1 + 1 + 1 + 1)).tmod 8).toNat
      have h2 := at_mod hb (N + 8 + 8 + 1 + 1 + 1 + 1) (show (0 : Int) < 8 by omega)
      omega
    have hF3 : ((s_at rs (N + 8 + 8 + 1 + 1 + 1 + 1)).tmod 8).toNat ≤ 7 := by
      have h2 := at_mod hb (N + 8 + 8 + 1 + 1 + 1 + 1) (show (0 : Int) < 8 by omega)
      omega
    have osg : ∀ (r : List (List AV)) (t : Int) (k : Nat), (s_rowi (s_sg r t k)).length = k := fun r t k => by unfold s_rowi; rw [irow_len, sg_len]
    have h60a := at_mod hb (N + 8 + 8 + 1 + 1) (show (0 : Int) < 60 by omega)
    have h60b := at_mod hb (N + 8 + 8 + 1 + 1 + 1) (show (0 : Int) < 60 by omega)
    refine ⟨.mk ⟨trivial, by omega, by omega, trivial, hb⟩, fun rows' hr => ⟨.mk ⟨by omega, by omega, hb⟩, .mk ⟨by omega, by omega, hb⟩, .mk ⟨by omega, by omega, hb⟩, .mk ⟨by omega, by omega, hb⟩, ?_⟩⟩
    have hlen : rows'.length = N := by rw [hr]; unfold s_rowi; rw [irow_len, on_len]
    rw [wr (x := (s_at rs (N + 8 + 8 + 1 + 1)).tmod 60 + (s_at rs (N + 8 + 8 + 1 + 1 + 1)).tmod 60) (by omega) (by omega), wr (x := (2 : Int) * (N : Int)) (by omega) (by omega)]
    have hQa : ∀ (nl'' : Bool) (on dr er ac dv : List (List AV)) (k a f t z : Int), on.length = N ∧ dr.length = 8 ∧ er.length = 8 ∧ ac.length ≤ 7 ∧ dv.length = 4 → Q (AV.agg [AV.sl 0 0 N, AV.row false [K.int IntKind.i64] dr, AV.row false [K.int IntKind.i64] er, AV.nils, AV.int IntKind.i64 k, AV.int IntKind.i64 a, AV.int IntKind.i64 f, AV.int IntKind.i64 t, AV.row nl'' [K.int IntKind.i64, K.int IntKind.i64, K.str] ac, AV.row false [K.int IntKind.i64] dv, AV.int IntKind.i64 z], [AObj.arr 2 3 [K.int IntKind.i64] on]) := fun nl'' on dr er ac dv k a f t z h => by
      have := (hQ nl'' on dr er [] ac dv k a f t z ⟨h.1, h.2.1, h.2.2.1, h.2.2.2.1, h.2.2.2.2, Nat.zero_le _⟩).1 rfl
      rw [h.1] at this
      exact this
    have hQb : ∀ (nl'' : Bool) (on dr er ca ac dv : List (List AV)) (k a f t z : Int) (M : Nat), ca.length = M → M ≤ 15 → on.length = N ∧ dr.length = 8 ∧ er.length = 8 ∧ ac.length ≤ 7 ∧ dv.length = 4 → Q (AV.agg [AV.sl 0 0 N, AV.row false [K.int IntKind.i64] dr, AV.row false [K.int IntKind.i64] er, AV.sl 1 0 M, AV.int IntKind.i64 k, AV.int IntKind.i64 a, AV.int IntKind.i64 f, AV.int IntKind.i64 t, AV.row nl'' [K.int IntKind.i64, K.int IntKind.i64, K.str] ac, AV.row false [K.int IntKind.i64] dv, AV.int IntKind.i64 z], [AObj.arr 2 3 [K.int IntKind.i64] on, AObj.arr 2 43 [K.int IntKind.i64, K.int IntKind.i64, K.int IntKind.i64, K.int IntKind.i64] ca]) := fun nl'' on dr er ca ac dv k a f t z M hM hM2 h => by
      have := (hQ nl'' on dr er ca ac dv k a f t z ⟨h.1, h.2.1, h.2.2.1, h.2.2.2.1, h.2.2.2.2, by omega⟩).2
      rw [h.1, hM] at this
      exact this
    clear hQ
    obtain ⟨v, hv⟩ : ∃ v, v = s_fat (N : Int) ((s_at rs (N + 8 + 8)).tmod 3) (s_at rs (N + 8 + 8 + 1)) := ⟨_, rfl⟩
    refine br_intro (fun h1 => ?_) fun h1 => br_intro (fun h2 => ?_) fun h2 => ?_
    · have h1 := beq_iff_eq.1 h1
      have hv : v = (s_at rs (N + 8 + 8 + 1)).tmod N := by rw [hv, h1]; rfl
      rw [chk_iff, ← hv]
      refine ⟨by omega, ?_⟩
      refine ⟨.mk ⟨by omega, by omega, hb⟩, .mk ⟨by omega, by omega, hb⟩, .mk ⟨by omega, by omega, hb⟩, fun nl1 k1 hk => ?_⟩
      subst hk
      simp only [hF1]
      have hm := at_mod hb (N + 8 + 8 + s_fN (s_drop (N + 8 + 8) rs) + 4 + 1) (show (0 : Int) < 16 by omega)
      have h40 := at_mod hb (N + 8 + 8 + s_fN (s_drop (N + 8 + 8) rs) + 4) (show (0 : Int) < 40 by omega)
      rw [wr (x := 20 + (s_at rs (N + 8 + 8 + s_fN (s_drop (N + 8 + 8) rs) + 4)).tmod 40) (by omega) (by omega)]
      refine ⟨.mk ⟨by omega, by omega, hb⟩, .mk ⟨by omega, by omega, hb⟩, .mk ⟨by omega, by omega, hb⟩, .mk ⟨trivial, hm.1, by omega, by omega, by omega, by omega, by omega, by omega, hb⟩, fun h0 => ?_, fun ca hca => ?_⟩
      · exact hQa _ _ _ _ _ _ _ _ _ _ _ ⟨hlen, osg _ _ _, osg _ _ _, by rw [acts_len]; exact hF3, osg _ _ _⟩
      · have hl := calls_len N (ps.length : Int) ((s_at rs (N + 8 + 8 + s_fN (s_drop (N + 8 + 8) rs) + 4 + 1)).tmod 16).toNat (s_drop (N + 8 + 8 + s_fN (s_drop (N + 8 + 8) rs) + 4 + 1 + 1) rs)
        rw [← hca] at hl
        exact hQb _ _ _ _ _ _ _ _ _ _ _ _ _ hl (by omega) ⟨hlen, osg _ _ _, osg _ _ _, by rw [acts_len]; exact hF3, osg _ _ _⟩
    · have h2 := beq_iff_eq.1 h2
      have hv : v = (s_at rs (N + 8 + 8 + 1)).tmod (2 * N) := by rw [hv, h2]; rfl
      rw [chk_iff, ← hv]
      refine ⟨by omega, ?_⟩
      refine ⟨.mk ⟨by omega, by omega, hb⟩, .mk ⟨by omega, by omega, hb⟩, .mk ⟨by omega, by omega, hb⟩, fun nl1 k1 hk => ?_⟩
      subst hk
      simp only [hF1]
      have hm := at_mod hb (N + 8 + 8 + s_fN (s_drop (N + 8 + 8) rs) + 4 + 1) (show (0 : Int) < 16 by omega)
      have h40 := at_mod hb (N + 8 + 8 + s_fN (s_drop (N + 8 + 8) rs) + 4) (show (0 : Int) < 40 by omega)
      rw [wr (x := 20 + (s_at rs (N + 8 + 8 + s_fN (s_drop (N + 8 + 8) rs) + 4)).tmod 40) (by omega) (by omega)]
      refine ⟨.mk ⟨by omega, by omega, hb⟩, .mk ⟨by omega, by omega, hb⟩, .mk ⟨by omega, by omega, hb⟩, .mk ⟨trivial, hm.1, by omega, by omega, by omega, by omega, by omega, by omega, hb⟩, fun h0 => ?_, fun ca hca => ?_⟩
      · exact hQa _ _ _ _ _ _ _ _ _ _ _ ⟨hlen, osg _ _ _, osg _ _ _, by rw [acts_len]; exact hF3, osg _ _ _⟩
      · have hl := calls_len N (ps.length : Int) ((s_at rs (N + 8 + 8 + s_fN (s_drop (N + 8 + 8) rs) + 4 + 1)).tmod 16).toNat (s_drop (N + 8 + 8 + s_fN (s_drop (N + 8 + 8) rs) + 4 + 1 + 1) rs)
        rw [← hca] at hl
        exact hQb _ _ _ _ _ _ _ _ _ _ _ _ _ hl (by omega) ⟨hlen, osg _ _ _, osg _ _ _, by rw [acts_len]; exact hF3, osg _ _ _⟩
    · have h1 := beq_eq_false_iff_ne.1 h1
      have h2 := beq_eq_false_iff_ne.1 h2
      have hv : v = 0 := by rw [hv]; unfold s_fat; rw [if_neg h2, if_neg h1]
      subst hv
      refine ⟨.mk ⟨by omega, by omega, hb⟩, .mk ⟨by omega, by omega, hb⟩, .mk ⟨by omega, by omega, hb⟩, fun nl1 k1 hk => ?_⟩
      subst hk
      simp only [hF1]
      have hm := at_mod hb (N + 8 + 8 + s_fN (s_drop (N + 8 + 8) rs) + 4 + 1) (show (0 : Int) < 16 by omega)
      have h40 := at_mod hb (N + 8 + 8 + s_fN (s_drop (N + 8 + 8) rs) + 4) (show (0 : Int) < 40 by omega)
      rw [wr (x := 20 + (s_at rs (N + 8 + 8 + s_fN (s_drop (N + 8 + 8) rs) + 4)).tmod 40) (by omega) (by omega)]
      refine ⟨.mk ⟨by omega, by omega, hb⟩, .mk ⟨by omega, by omega, hb⟩, .mk ⟨by omega, by omega, hb⟩, .mk ⟨trivial, hm.1, by omega, by omega, by omega, by omega, by omega, by omega, hb⟩, fun h0 => ?_, fun ca hca => ?_⟩
      · exact hQa _ _ _ _ _ _ _ _ _ _ _ ⟨hlen, osg _ _ _, osg _ _ _, by rw [acts_len]; exact hF3, osg _ _ _⟩
      · have hl := calls_len N (ps.length : Int) ((s_at rs (N + 8 + 8 + s_fN (s_drop (N + 8 + 8) rs) + 4 + 1)).tmod 16).toNat (s_drop (N + 8 + 8 + s_fN (s_drop (N + 8 + 8) rs) + 4 + 1 + 1) rs)
        rw [← hca] at hl
        exact hQb _ _ _ _ _ _ _ _ _ _ _ _ _ hl (by omega) ⟨hlen, osg _ _ _, osg _ _ _, by rw [acts_len]; exact hF3, osg _ _ _⟩
  · exact hq.elim
theorem okT5 : OkSp Try.prog H0 T5 := okT5of ok13 ok34
theorem take_succ {rs : List (List AV)} {p : List AV → Prop} {i : Nat} (hi : i < rs.length) (h : ∀ r ∈ rs.take i, p r) (hp : p (rs.getD i [])) : ∀ r ∈ rs.take (i + 1), p r := by
  intro r hr
  rw [List.take_add_one, List.mem_append] at hr
  rcases hr with hr | hr
  · exact h r hr
  · rw [List.getElem?_eq_getElem hi] at hr
    simp only [Option.toList_some, List.mem_singleton] at hr
    subst hr
    rwa [show rs.getD i [] = rs[i] by rw [List.getD_eq_getElem?_getD, List.getElem?_eq_getElem hi]; rfl] at hp
theorem long_no {rs : List (List AV)} (h : ∀ r ∈ rs, ¬ 1000 < (actText r).size) : s_long rs = false := by
  unfold s_long
  rw [List.any_eq_false]
  intro r hr
  simpa using h r hr
theorem long_yes {rs : List (List AV)} {i : Nat} (hi : i < rs.length) (h : 1000 < (actText (rs.getD i [])).size) : s_long rs = true := by
  unfold s_long
  rw [List.any_eq_true]
  exact ⟨rs.getD i [], by rw [List.getD_eq_getElem?_getD, List.getElem?_eq_getElem hi]; simp, by simpa using h⟩
theorem okLIdxA : OkLp Try.prog H0 51 2 lIdxA := by
  refine okLp_of (U := 6) (k := 6) okT5 lIdxA (fun vals _ => match vals with | [_, _, .int _ m, .int _ i] => (m - i).toNat | _ => 0) fun vals h Q hl => ?_
  unfold lIdxA at hl
  split at hl
  · rename_i nl rs m i
    obtain ⟨⟨hm, h0, h1, h2, h3⟩, hq1, hq2⟩ := hyp_iff.1 hl
    subst hm
    refine to (nf51a ..) ?_
    refine br_intro (fun hc => chk_iff.2 ⟨⟨h0, of_decide_eq_true hc⟩, br_intro (fun hb => ?_) fun hb => ?_⟩) fun hc => ?_
    · have hb : (((actText (rs.getD i.toNat [])).size : Nat) : Int) > 1000 := of_decide_eq_true hb
      have hc := of_decide_eq_true hc
      exact hq2 i h0 (long_yes (i := i.toNat) (by omega) (by omega))
    · have hc := of_decide_eq_true hc
      rw [wr (x := i + 1) (by omega) (by omega)]
      refine ⟨by show ((rs.length : Int) - (i + 1)).toNat < ((rs.length : Int) - i).toNat; omega, hyp_iff.2 ⟨⟨rfl, by omega, by omega, h2, ?_⟩, hq1, hq2⟩⟩
      rw [show (i + 1).toNat = i.toNat + 1 by omega]
      refine take_succ (by omega) h3 ?_
      have hb : ¬ (((actText (rs.getD i.toNat [])).size : Nat) : Int) > 1000 := of_decide_eq_false hb
      omega
    · have hc := of_decide_eq_false hc
      refine hq1 (long_no fun r hr => h3 r ?_)
      rw [List.take_of_length_le (by omega)]; exact hr
  · exact hl.elim
theorem okLChk : OkLp Try.prog H0 40 14 lChk := by
  refine okLp_of (U := 6) (k := 6) okT5 lChk (fun vals h => match vals, h with | [_, .int _ i], [.box [_, _, _, _, .row _ _ rs, _]] => ((rs.length : Int) - i).toNat | _, _ => 0) fun vals h Q hl => ?_
  unfold lChk at hl
  split at hl
  · rename_i i k a f t nl rs nl2 ds
    obtain ⟨⟨h0, h1, h2, h3⟩, hq1, hq2⟩ := hyp_iff.1 hl
    refine to (nf40a ..) ?_
    refine br_intro (fun hc => chk_iff.2 ⟨⟨h0, of_decide_eq_true hc⟩, br_intro (fun hb => ?_) fun hb => ?_⟩) fun hc => ?_
    · have hb : (((actText (rs.getD i.toNat [])).size : Nat) : Int) > 1000 := of_decide_eq_true hb
      have hc := of_decide_eq_true hc
      exact hq2 (long_yes (i := i.toNat) (by omega) (by omega))
    · have hc := of_decide_eq_true hc
      rw [wr (x := i + 1) (by omega) (by omega)]
      refine ⟨by show ((rs.length : Int) - (i + 1)).toNat < ((rs.length : Int) - i).toNat; omega, hyp_iff.2 ⟨⟨by omega, by omega, h2, ?_⟩, hq1, hq2⟩⟩
      rw [show (i + 1).toNat = i.toNat + 1 by omega]
      refine take_succ (by omega) h3 ?_
      have hb : ¬ (((actText (rs.getD i.toNat [])).size : Nat) : Int) > 1000 := of_decide_eq_false hb
      omega
    · have hc := of_decide_eq_false hc
      refine hq1 (long_no fun r hr => h3 r ?_)
      rw [List.take_of_length_le (by omega)]; exact hr
  · exact hl.elim
theorem okLRows : OkLp Try.prog H0 28 4 lRows := by
  refine okLp_of (U := 6) (k := 6) okT5 lRows (fun vals _ => match vals with | [.row _ _ rs, _, .int _ i] => ((rs.length : Int) - i).toNat | _ => 0) fun vals h Q hl => ?_
  unfold lRows at hl
  split at hl
  · rename_i nl rs nl2 rs' i
    obtain ⟨⟨h0, h1, h2, h3⟩, hq⟩ := hyp_iff.1 hl
    subst h0
    refine to (nf28a ..) (br_intro (fun hc => ?_) fun hc => hq)
    have hc := of_decide_eq_true hc
    rw [chk_iff, chk_iff, wr (x := i + 1) (by omega) (by omega)]
    refine ⟨⟨h1, hc⟩, ⟨h1, hc⟩, br_intro (fun c => absurd c (by simp)) fun _ => ⟨by show ((rs'.length : Int) - (i + 1)).toNat < ((rs'.length : Int) - i).toNat; omega, .mk ⟨rfl, by omega, by omega, h3⟩, hq⟩⟩
  · exact hl.elim
theorem all_no {p : List AV → Bool} {rs : List (List AV)} {i : Nat} (hi : i < rs.length) (h : p (rs.getD i []) = false) : rs.all p = false := by
  rw [List.all_eq_false]
  exact ⟨rs.getD i [], get_mem hi, by rw [h]; simp⟩
theorem all_yes {p : List AV → Bool} {rs : List (List AV)} {i : Nat} (hi : rs.length ≤ i) (h : ∀ r ∈ rs.take i, p r = true) : rs.all p = true := by
  rw [List.all_eq_true]
  rwa [List.take_of_length_le hi] at h
theorem okLIdxI : OkLp Try.prog H0 46 2 lIdxI := by
  refine okLp_of (U := 6) (k := 6) okT5 lIdxI (fun vals _ => match vals with | [_, _, .int _ m, .int _ i] => (m - i).toNat | _ => 0) fun vals h Q hl => ?_
  unfold lIdxI at hl
  split at hl
  · rename_i nl rs m i
    obtain ⟨⟨hm, h0, h1, h2, h3⟩, hq1, hq2⟩ := hyp_iff.1 hl
    subst hm
    refine to (nf46a ..) (br_intro (fun hc => chk_iff.2 ⟨⟨h0, of_decide_eq_true hc⟩, br_intro (fun hb => ?_) fun hb => ?_⟩) fun hc => ?_)
    · have hc := of_decide_eq_true hc
      refine hq2 i h0 (all_no (i := i.toNat) (by omega) ?_)
      unfold s_on1; simpa using hb
    · have hc := of_decide_eq_true hc
      rw [wr (x := i + 1) (by omega) (by omega)]
      refine ⟨by show ((rs.length : Int) - (i + 1)).toNat < ((rs.length : Int) - i).toNat; omega, hyp_iff.2 ⟨⟨rfl, by omega, by omega, h2, ?_⟩, hq1, hq2⟩⟩
      rw [show (i + 1).toNat = i.toNat + 1 by omega]
      refine take_succ (by omega) h3 ?_
      unfold s_on1; simpa using hb
    · have hc := of_decide_eq_false hc
      exact hq1 (all_yes (by omega) h3)
  · exact hl.elim
theorem ca1_no {n : Int} {np : Int} {r : List AV} (h : s_in (r.getD 0 AV.gone).toI 0 200 = false ∨ s_in (r.getD 1 AV.gone).toI 0 (n - 1) = false ∨ s_in (r.getD 2 AV.gone).toI 0 np = false) : s_ca1 n np r = false := by
  unfold s_ca1
  rcases h with h | h | h
  · rw [h]; rfl
  · rw [h]; simp
  · rw [h]; simp
theorem okLIdxC : OkLp Try.prog H0 47 1002 lIdxC := by
  refine okLp_of (U := 6) (k := 6) okT5 lIdxC (fun vals _ => match vals with | [_, _, .int _ m, .int _ i] => (m - i).toNat | _ => 0) fun vals h Q hl => ?_
  unfold lIdxC at hl
  split at hl
  · rename_i nl2 rs m i n pi e g fi nl ps
    obtain ⟨⟨hm, h0, h1, h2, hn1, hn2, h3⟩, hq1, hq2⟩ := hyp_iff.1 hl
    subst hm
    refine to (nf47a ..) ?_
    rw [wr (x := n - 1) (by omega) (by omega)]
    refine br_intro (fun hc => chk_iff.2 ⟨⟨h0, of_decide_eq_true hc⟩, br_intro (fun hb => ?_) fun hb => br_intro (fun hb2 => ?_) fun hb2 => br_intro (fun hb3 => ?_) fun hb3 => ?_⟩) fun hc => ?_
    · have hc := of_decide_eq_true hc
      exact hq2 i h0 (all_no (i := i.toNat) (by omega) (ca1_no (.inl (by simpa using hb))))
    · have hc := of_decide_eq_true hc
      exact hq2 i h0 (all_no (i := i.toNat) (by omega) (ca1_no (.inr (.inl (by simpa using hb2)))))
    · have hc := of_decide_eq_true hc
      exact hq2 i h0 (all_no (i := i.toNat) (by omega) (ca1_no (.inr (.inr (by simpa using hb3)))))
    · have hc := of_decide_eq_true hc
      rw [wr (x := i + 1) (by omega) (by omega)]
      refine ⟨by show ((rs.length : Int) - (i + 1)).toNat < ((rs.length : Int) - i).toNat; omega, hyp_iff.2 ⟨⟨rfl, by omega, by omega, h2, hn1, hn2, ?_⟩, hq1, hq2⟩⟩
      rw [show (i + 1).toNat = i.toNat + 1 by omega]
      refine take_succ (by omega) h3 ?_
      unfold s_ca1
      rw [show s_in ((rs.getD i.toNat []).getD 0 AV.gone).toI 0 200 = true by simpa using hb, show s_in ((rs.getD i.toNat []).getD 1 AV.gone).toI 0 (n - 1) = true by simpa using hb2, show s_in ((rs.getD i.toNat []).getD 2 AV.gone).toI 0 ps.length = true by simpa using hb3]
      rfl
    · have hc := of_decide_eq_false hc
      exact hq1 (all_yes (by omega) h3)
  · exact hl.elim
theorem in_no {x a b : Int} (h : x < a ∨ b < x) : s_in x a b = false := by unfold s_in; simp; omega
theorem in_yes {x a b : Int} (h1 : a ≤ x) (h2 : x ≤ b) : s_in x a b = true := by unfold s_in; simp; omega
theorem okLOn16 : OkLp Try.prog H0 16 6 lOn16 := by
  refine okLp_of (U := 6) (k := 6) okT5 lOn16 (fun vals h => match vals, h with | [_, _, .int _ i], [_, .box (.row _ _ rs :: _)] => ((rs.length : Int) - i).toNat | _, _ => 0) fun vals h Q hl => ?_
  unfold lOn16 at hl
  split at hl
  · rename_i i n pi e g fi nl ps b0 r0 b1 r1 b2 r2 b3 r3 k a f t b4 r4 b5 r5 z
    obtain ⟨⟨h0, h1, h2, h3⟩, hq1, hq2⟩ := hyp_iff.1 hl
    refine to (nf16a ..) ?_
    refine br_intro (fun hc => chk_iff.2 ⟨⟨h0, of_decide_eq_true hc⟩, br_intro (fun hb => ?_) fun hb => chk_iff.2 ⟨⟨h0, of_decide_eq_true hc⟩, br_intro (fun hb2 => ?_) fun hb2 => ?_⟩⟩) fun hc => ?_
    · have hc := of_decide_eq_true hc
      have hb := of_decide_eq_true hb
      exact hq2 (all_no (i := i.toNat) (by omega) (in_no (.inl hb)))
    · have hc := of_decide_eq_true hc
      have hb2 := of_decide_eq_true hb2
      exact hq2 (all_no (i := i.toNat) (by omega) (in_no (.inr hb2)))
    · have hc := of_decide_eq_true hc
      have hb := of_decide_eq_false hb
      have hb2 := of_decide_eq_false hb2
      rw [wr (x := i + 1) (by omega) (by omega)]
      refine ⟨by show ((r0.length : Int) - (i + 1)).toNat < ((r0.length : Int) - i).toNat; omega, hyp_iff.2 ⟨⟨by omega, by omega, h2, ?_⟩, hq1, hq2⟩⟩
      rw [show (i + 1).toNat = i.toNat + 1 by omega]
      exact take_succ (by omega) h3 (in_yes (by omega) (by omega))
    · have hc := of_decide_eq_false hc
      exact hq1 (all_yes (by omega) h3)
  · exact hl.elim
theorem okLCa16 : OkLp Try.prog H0 16 11 lCa16 := by
  refine okLp_of (U := 6) (k := 6) okT5 lCa16 (fun vals h => match vals, h with | [_, _, .int _ i], [_, .box [_, _, _, .row _ _ rs, _, _, _, _, _, _, _]] => ((rs.length : Int) - i).toNat | _, _ => 0) fun vals h Q hl => ?_
  unfold lCa16 at hl
  split at hl
  · rename_i i n pi e g fi nl ps b0 r0 b1 r1 b2 r2 b3 r3 k a f t b4 r4 b5 r5 z
    obtain ⟨⟨h0, h1, h2, h3⟩, hq1, hq2⟩ := hyp_iff.1 hl
    refine to (nf16b ..) ?_
    refine br_intro (fun hc => chk_iff.2 ⟨⟨h0, of_decide_eq_true hc⟩, ?_⟩) fun hc => ?_
    · have hc := of_decide_eq_true hc
      refine br_intro (fun c1 => ?_) fun c1 => br_intro (fun c2 => ?_) fun c2 => br_intro (fun c3 => ?_) fun c3 => br_intro (fun c4 => ?_) fun c4 => br_intro (fun c5 => ?_) fun c5 => br_intro (fun c6 => ?_) fun c6 => ?_
      all_goals simp only [decide_eq_true_eq, decide_eq_false_iff_not] at *
      · exact hq2 (all_no (i := i.toNat) (by omega) (ca1_no (.inl (in_no (.inl c1)))))
      · exact hq2 (all_no (i := i.toNat) (by omega) (ca1_no (.inl (in_no (.inr c2)))))
      · exact hq2 (all_no (i := i.toNat) (by omega) (ca1_no (.inr (.inl (in_no (.inl c3))))))
      · exact hq2 (all_no (i := i.toNat) (by omega) (ca1_no (.inr (.inl (in_no (.inr (by omega)))))))
      · exact hq2 (all_no (i := i.toNat) (by omega) (ca1_no (.inr (.inr (in_no (.inl c5))))))
      · exact hq2 (all_no (i := i.toNat) (by omega) (ca1_no (.inr (.inr (in_no (.inr c6))))))
      · rw [wr (x := i + 1) (by omega) (by omega)]
        refine ⟨by show ((r3.length : Int) - (i + 1)).toNat < ((r3.length : Int) - i).toNat; omega, hyp_iff.2 ⟨⟨by omega, by omega, h2, ?_⟩, hq1, hq2⟩⟩
        rw [show (i + 1).toNat = i.toNat + 1 by omega]
        refine take_succ (by omega) h3 ?_
        unfold s_ca1
        rw [in_yes (by omega) (by omega), in_yes (by omega) (by omega), in_yes (by omega) (by omega)]
        rfl
    · have hc := of_decide_eq_false hc
      exact hq1 (all_yes (by omega) h3)
  · exact hl.elim
theorem okT5L : OkSp Try.prog H0 T5L := ⟨okT5.fn, okLRows, okLIdxA, okLChk, okLIdxI, okLIdxC, okLOn16, okLCa16, trivial⟩
theorem ok28 : OkS Try.prog H0 28 sRows := by
  intro args h Q hq
  unfold sRows at hq
  split at hq
  · rename_i nl rs nl2 rs'
    obtain ⟨⟨h0, h1⟩, hQ⟩ := hyp_iff.1 hq
    subst h0
    exact in_ok (S := T5L) (U := 6) (k := 6) okT5L (to (nf28 ..) (br_intro (fun c => absurd c (by simp)) fun _ => ⟨.mk ⟨rfl, by omega, by omega, h1⟩, hQ⟩))
  · exact hq.elim
theorem ok49 : OkS Try.prog H0 49 sHasA := by
  intro args h Q hq
  unfold sHasA at hq
  split at hq
  · obtain ⟨h0, hQ⟩ := hyp_iff.1 hq
    refine in_ok (S := T5L) (U := 6) (k := 6) okT5L (to (nf49 ..) (hyp_iff.2 ⟨⟨rfl, by omega, by omega, h0, fun r hr => by simp at hr⟩, fun e => ?_, fun j hj e => ?_⟩))
    · rw [e] at hQ; exact hQ
    · rw [e] at hQ; rw [decide_eq_true hj]; exact hQ
  · exact hq.elim
theorem ok36 : OkS Try.prog H0 36 sHasI := by
  intro args h Q hq
  unfold sHasI at hq
  split at hq
  · obtain ⟨h0, hQ⟩ := hyp_iff.1 hq
    refine in_ok (S := T5L) (U := 6) (k := 6) okT5L (to (nf36 ..) (hyp_iff.2 ⟨⟨rfl, by omega, by omega, h0, fun r hr => by simp at hr⟩, fun e => ?_, fun j hj e => ?_⟩))
    · exact hQ _ (by rw [e]; rfl)
    · rw [decide_eq_true hj]; exact hQ _ (by rw [e]; rfl)
  · exact hq.elim
theorem ok37 : OkS Try.prog H0 37 sHasC := by
  intro args h Q hq
  unfold sHasC at hq
  split at hq
  · obtain ⟨⟨h0, h1, h2⟩, hQ⟩ := hyp_iff.1 hq
    refine in_ok (S := T5L) (U := 6) (k := 6) okT5L (to (nf37 ..) (hyp_iff.2 ⟨⟨rfl, by omega, by omega, h0, h1, h2, fun r hr => by simp at hr⟩, fun e => ?_, fun j hj e => ?_⟩))
    · exact hQ _ (by rw [e]; rfl)
    · rw [decide_eq_true hj]; exact hQ _ (by rw [e]; rfl)
  · exact hq.elim
section
variable {n k a f t p : Int} {acts ds : List (List AV)} {Q : AV × List AObj → Prop}
theorem tail15 (hk : ¬ (k < 0 ∨ 2 < k)) (ha : ¬ a < 0) (hp : s_places n k = p) (hl : acts.length ≤ 9223372036854775807) (hQ : Q (.int .i64 (s_fcheck n k a f t acts ds), [])) :
    br (decide (a ≥ p)) (Q ((AV.int IntKind.i64 (1 : Int), []))) (br (decide (f < (0 : Int))) (Q ((AV.int IntKind.i64 (1 : Int), []))) (br (decide (t > (1000 : Int))) (Q ((AV.int IntKind.i64 (1 : Int), [])))
      (br (decide (t < f)) (Q ((AV.int IntKind.i64 (1 : Int), []))) (br (decide ((↑acts.length : Int) > (40 : Int))) (Q ((AV.int IntKind.i64 (2 : Int), []))) (br (decide ((↑ds.length : Int) > (40 : Int))) (Q ((AV.int IntKind.i64 (2 : Int), [])))
        ((Hyp (acts.length ≤ (9223372036854775807 : Nat))) ∧ (br (s_long acts) (Q ((AV.int IntKind.i64 (2 : Int), []))) (Q ((AV.int IntKind.i64 (0 : Int), [])))))))))) := by
  unfold s_fcheck at hQ
  rw [if_neg hk, hp] at hQ
  refine br_intro (fun c1 => ?_) fun c1 => br_intro (fun c2 => ?_) fun c2 => br_intro (fun c3 => ?_) fun c3 => br_intro (fun c4 => ?_) fun c4 => br_intro (fun c5 => ?_) fun c5 => br_intro (fun c6 => ?_) fun c6 => ⟨.mk hl, br_intro (fun c7 => ?_) fun c7 => ?_⟩
  all_goals simp only [decide_eq_true_eq, decide_eq_false_iff_not] at *
  · rw [if_pos (by omega)] at hQ; exact hQ
  · rw [if_neg (by omega), if_pos (by omega)] at hQ; exact hQ
  · rw [if_neg (by omega), if_pos (by omega)] at hQ; exact hQ
  · rw [if_neg (by omega), if_pos (by omega)] at hQ; exact hQ
  · rw [if_neg (by omega), if_neg (by omega), if_pos (by omega)] at hQ; exact hQ
  · rw [if_neg (by omega), if_neg (by omega), if_pos (by omega)] at hQ; exact hQ
  · rw [if_neg (by omega), if_neg (by omega), if_neg (by omega), if_pos c7] at hQ; exact hQ
  · rw [if_neg (by omega), if_neg (by omega), if_neg (by omega), if_neg (by simp [c7])] at hQ; exact hQ
theorem tail16 (hk : ¬ (k < 0 ∨ 2 < k)) (hp : s_places n k = p) (hl : acts.length ≤ 9223372036854775807) (hQ : Q (.int .i64 (s_fcheck n k a f t acts ds), [])) :
    br (decide (a < (0 : Int))) (Q ((AV.int IntKind.i64 (1 : Int), []))) (br (decide (a ≥ p)) (Q ((AV.int IntKind.i64 (1 : Int), []))) (br (decide (f < (0 : Int))) (Q ((AV.int IntKind.i64 (1 : Int), []))) (br (decide (f > (1000 : Int))) (Q ((AV.int IntKind.i64 (1 : Int), [])))
      (br (decide (t < f)) (Q ((AV.int IntKind.i64 (1 : Int), []))) (br (decide (t > (1000 : Int))) (Q ((AV.int IntKind.i64 (1 : Int), []))) (br (decide ((↑acts.length : Int) > (40 : Int))) (Q ((AV.int IntKind.i64 (2 : Int), []))) (br (decide ((↑ds.length : Int) > (40 : Int))) (Q ((AV.int IntKind.i64 (2 : Int), [])))
        ((Hyp ((0 : Int) ≤ (0 : Int) ∧ (0 : Int) ≤ (↑acts.length : Int) ∧ acts.length ≤ (9223372036854775807 : Nat) ∧ ∀ (r : List AV), r ∈ List.take (Int.toNat (0 : Int)) acts → ¬(1000 : Nat) < (actText r).size)) ∧
         ((s_long acts = false) → Q ((AV.int IntKind.i64 (0 : Int), []))) ∧ ((s_long acts = true) → Q ((AV.int IntKind.i64 (2 : Int), []))))))))))) := by
  unfold s_fcheck at hQ
  rw [if_neg hk, hp] at hQ
  refine br_intro (fun c1 => ?_) fun c1 => br_intro (fun c2 => ?_) fun c2 => br_intro (fun c3 => ?_) fun c3 => br_intro (fun c4 => ?_) fun c4 => br_intro (fun c5 => ?_) fun c5 => br_intro (fun c6 => ?_) fun c6 => br_intro (fun c8 => ?_) fun c8 => br_intro (fun c9 => ?_) fun c9 =>
    ⟨.mk ⟨by omega, by omega, hl, fun r hr => by simp at hr⟩, fun c7 => ?_, fun c7 => ?_⟩
  all_goals simp only [decide_eq_true_eq, decide_eq_false_iff_not] at *
  · rw [if_pos (by omega)] at hQ; exact hQ
  · rw [if_pos (by omega)] at hQ; exact hQ
  · rw [if_neg (by omega), if_pos (by omega)] at hQ; exact hQ
  · rw [if_neg (by omega), if_pos (by omega)] at hQ; exact hQ
  · rw [if_neg (by omega), if_pos (by omega)] at hQ; exact hQ
  · rw [if_neg (by omega), if_pos (by omega)] at hQ; exact hQ
  · rw [if_neg (by omega), if_neg (by omega), if_pos (by omega)] at hQ; exact hQ
  · rw [if_neg (by omega), if_neg (by omega), if_pos (by omega)] at hQ; exact hQ
  · rw [if_neg (by omega), if_neg (by omega), if_neg (by omega), if_neg (by simp [c7])] at hQ; exact hQ
  · rw [if_neg (by omega), if_neg (by omega), if_neg (by omega), if_pos c7] at hQ; exact hQ
end
theorem ok40 : OkS Try.prog H0 40 sFCheck := by
  intro args h Q hq
  unfold sFCheck at hq
  split at hq
  · rename_i n pi e g fi nl rs k a f t nl1 acts nl2 ds
    obtain ⟨⟨h0, h1, hl⟩, hQ⟩ := hyp_iff.1 hq
    refine in_ok (S := T5L) (U := 6) (k := 6) okT5L (to (nf40 ..) ?_)
    rw [wr (x := 2 * n) (by omega) (by omega)]
    refine br_intro (fun c1 => ?_) fun c1 => br_intro (fun c2 => ?_) fun c2 => br_intro (fun c3 => ?_) fun c3 => ?_
    all_goals simp only [beq_iff_eq, beq_eq_false_iff_ne] at *
    · exact tail16 (by omega) (by unfold s_places; rw [if_neg (by omega), if_neg (by omega)]) hl hQ
    · exact tail16 (by omega) (by unfold s_places; rw [if_pos c2]) hl hQ
    · exact tail16 (by omega) (by unfold s_places; rw [if_neg c2, if_pos c3]) hl hQ
    · unfold s_fcheck at hQ; rw [if_pos (by omega)] at hQ; exact hQ
  · exact hq.elim
theorem okT6 : OkSp Try.prog H0 T6 := ⟨⟨ok28, ok49, ok40, ok36, ok37, okT5.fn⟩, trivial⟩
theorem okLSameC : OkLp Try.prog H0 12 4 lSameC := by
  refine okLp_of (U := 6) (k := 6) okT6 lSameC (fun vals h => match vals, h with | [_, _, .int _ i], [.box [_, _, _, .row _ _ rs, _, _, _, _, _, _, _], _] => ((rs.length : Int) - i).toNat | _, _ => 0) fun vals h Q hl => ?_
  unfold lSameC at hl
  split at hl
  · rename_i i b0 r0 b1 r1 b2 r2 b3 r3 k a f t b4 r4 b5 r5 z b0' r0' b1' r1' b2' r2' b3' r3' k' a' f' t' b4' r4' b5' r5' z'
    obtain ⟨⟨h0, h1, h2, h3⟩, hq⟩ := hyp_iff.1 hl
    subst h0
    refine to (nf12a ..) (br_intro (fun hc => ?_) fun hc => hq)
    have hc := of_decide_eq_true hc
    rw [chk_iff, chk_iff, wr (x := i + 1) (by omega) (by omega)]
    refine ⟨⟨h1, hc⟩, ⟨h1, hc⟩, br_intro (fun c => absurd c (by simp)) fun _ => ⟨by show ((r3'.length : Int) - (i + 1)).toNat < ((r3'.length : Int) - i).toNat; omega, .mk ⟨rfl, by omega, by omega, h3⟩, hq⟩⟩
  · exact hl.elim
theorem okLSameA : OkLp Try.prog H0 12 9 lSameA := by
  refine okLp_of (U := 6) (k := 6) okT6 lSameA (fun vals h => match vals, h with | [_, _, .int _ i], [.box [_, _, _, _, _, _, _, _, .row _ _ rs, _, _], _] => ((rs.length : Int) - i).toNat | _, _ => 0) fun vals h Q hl => ?_
  unfold lSameA at hl
  split at hl
  · rename_i i b0 r0 b1 r1 b2 r2 b3 r3 k a f t b4 r4 b5 r5 z b0' r0' b1' r1' b2' r2' b3' r3' k' a' f' t' b4' r4' b5' r5' z'
    obtain ⟨⟨h0, h1, h2, h3⟩, hq⟩ := hyp_iff.1 hl
    subst h0
    refine to (nf12b ..) (br_intro (fun hc => ?_) fun hc => hq)
    have hc := of_decide_eq_true hc
    rw [chk_iff, chk_iff, wr (x := i + 1) (by omega) (by omega)]
    refine ⟨⟨h1, hc⟩, ⟨h1, hc⟩, br_intro (fun c => absurd c (by simp)) fun _ => ⟨by show ((r4'.length : Int) - (i + 1)).toNat < ((r4'.length : Int) - i).toNat; omega, .mk ⟨rfl, by omega, by omega, h3⟩, hq⟩⟩
  · exact hl.elim
theorem okT6L : OkSp Try.prog H0 T6L := ⟨okT6.fn, okLSameC, okLSameA, okLOn16, okLCa16, trivial⟩
theorem ok12 : OkS Try.prog H0 12 sSame := by
  intro args h Q hq
  unfold sSame at hq
  split at hq
  · obtain ⟨⟨⟨e1, e2, e3, e4, e5, e6, e7, e8, e9, e10, e11⟩, h0, h1, h2, h3, h4, h5⟩, hQ⟩ := hyp_iff.1 hq
    subst e1 e2 e3 e4 e5 e6 e7 e8 e9 e10 e11
    refine in_ok (S := T6L) (U := 6) (k := 6) okT6L (to (nf12 ..) ?_)
    refine br_intro (fun c => absurd c (by simp)) fun _ => ⟨.mk ⟨rfl, h0⟩, .mk ⟨rfl, h1⟩, .mk ⟨rfl, h2⟩, br_intro (fun c => absurd c (by simp)) fun _ => br_intro (fun c => absurd c (by simp)) fun _ => ⟨.mk ⟨rfl, by omega, by omega, h3⟩, .mk ⟨rfl, by omega, by omega, h4⟩, ?_⟩⟩
    exact br_intro (fun _ => br_intro (fun _ => br_intro (fun _ => br_intro (fun _ => ⟨.mk ⟨rfl, h5⟩, hQ⟩) fun c => absurd c (by simp)) fun c => absurd c (by simp)) fun c => absurd c (by simp)) fun c => absurd c (by simp)
  · exact hq.elim
theorem ok38 : OkS Try.prog H0 38 sFCheck := by
  intro args h Q hq
  unfold sFCheck at hq
  split at hq
  · rename_i n pi e g fi nl rs k a f t nl1 acts nl2 ds
    obtain ⟨⟨h0, h1, hl⟩, hQ⟩ := hyp_iff.1 hq
    refine in_ok (S := T6L) (U := 6) (k := 6) okT6L (to (nf38 ..) ?_)
    rw [wr (x := 2 * n) (by omega) (by omega)]
    refine br_intro (fun c1 => ?_) fun c1 => br_intro (fun c2 => ?_) fun c2 => br_intro (fun c3 => ?_) fun c3 => br_intro (fun c4 => ?_) fun c4 => br_intro (fun c5 => ?_) fun c5 => ?_
    all_goals simp only [decide_eq_true_eq, decide_eq_false_iff_not, beq_iff_eq, beq_eq_false_iff_ne] at *
    · unfold s_fcheck at hQ; rw [if_pos (by omega)] at hQ; exact hQ
    · unfold s_fcheck at hQ; rw [if_pos (by omega)] at hQ; exact hQ
    · unfold s_fcheck at hQ; rw [if_neg (by omega), if_pos (.inl c3)] at hQ; exact hQ
    · exact tail15 (by omega) c3 (by unfold s_places; rw [if_pos c4]) hl hQ
    · exact tail15 (by omega) c3 (by unfold s_places; rw [if_neg c4, if_pos c5]) hl hQ
    · exact tail15 (by omega) c3 (by unfold s_places; rw [if_neg c4, if_neg c5]) hl hQ
  · exact hq.elim
theorem okT7 : OkSp Try.prog H0 T7 := ⟨⟨ok12, ok38, okT6.fn⟩, trivial⟩
theorem okT7L : OkSp Try.prog H0 T7L := ⟨okT7.fn, okLOn16, okLCa16, trivial⟩
theorem ok14 : OkS Try.prog H0 14 sSCheck := by
  intro args h Q hq
  unfold sSCheck at hq
  split at hq
  · rename_i n pi e g fi nl ps b0 r0 b1 r1 b2 r2 b3 r3 k a f t b4 r4 b5 r5 z
    obtain ⟨⟨h0, h1, h2, h3, h4⟩, hQ⟩ := hyp_iff.1 hq
    unfold s_scheck at hQ
    refine in_ok (S := T7L) (U := 6) (k := 6) okT7L (to (nf14 ..) ?_)
    refine br_intro (fun c => ?_) fun c => br_intro (fun c2 => ?_) fun c2 => br_intro (fun c3 => ?_) fun c3 => br_intro (fun c4 => ?_) fun c4 => br_intro (fun c5 => ?_) fun c5 => ⟨.mk h2, fun b hb => ?_⟩
    · have : z < 0 ∨ 200 < z := by simp [s_in] at c; omega
      rw [if_pos this] at hQ; exact hQ
    all_goals have hz : ¬ (z < 0 ∨ 200 < z) := by simp [s_in] at c; omega
    all_goals rw [if_neg hz] at hQ
    all_goals simp only [bne_iff_ne, ne_eq, bne_eq_false_iff_eq, decide_eq_true_eq, decide_eq_false_iff_not] at *
    · rw [if_pos (.inl c2)] at hQ; exact hQ
    · rw [if_pos (by omega)] at hQ; exact hQ
    · rw [if_pos (by omega)] at hQ; exact hQ
    · rw [if_pos (by omega)] at hQ; exact hQ
    · rw [if_neg (by omega)] at hQ
      subst hb
      refine br_intro (fun c6 => ?_) fun c6 => ⟨.mk ⟨h3, h0, h1⟩, fun b hb => ?_⟩
      · rw [if_pos (.inl (by simpa using c6))] at hQ; exact hQ
      subst hb
      refine br_intro (fun c7 => ?_) fun c7 => ⟨.mk ⟨h0, h1, h4⟩, ?_⟩
      · rw [if_pos (.inr (by simpa using c7))] at hQ; exact hQ
      rw [if_neg (by rw [show r0.all s_on1 = true by simpa using c6, show r3.all (s_ca1 n ps.length) = true by simpa using c7]; simp)] at hQ
      exact hQ
  · exact hq.elim
theorem ok16 : OkS Try.prog H0 16 sSCheck := by
  intro args h Q hq
  unfold sSCheck at hq
  split at hq
  · rename_i n pi e g fi nl ps b0 r0 b1 r1 b2 r2 b3 r3 k a f t b4 r4 b5 r5 z
    obtain ⟨⟨h0, h1, h2, h3, h4⟩, hQ⟩ := hyp_iff.1 hq
    unfold s_scheck at hQ
    refine in_ok (S := T7L) (U := 6) (k := 6) okT7L (to (nf16 ..) ?_)
    refine br_intro (fun c => ?_) fun c => br_intro (fun c0 => ?_) fun c0 => br_intro (fun c2 => ?_) fun c2 => br_intro (fun c3 => ?_) fun c3 => br_intro (fun c4 => ?_) fun c4 => br_intro (fun c5 => ?_) fun c5 => ⟨.mk ⟨by omega, by omega, h2, fun r hr => by simp at hr⟩, fun c6 => ⟨.mk ⟨by omega, by omega, h3, fun r hr => by simp at hr⟩, fun c7 => ⟨.mk ⟨h0, h1, h4⟩, ?_⟩, fun c7 => ?_⟩, fun c6 => ?_⟩
    all_goals simp only [bne_iff_ne, ne_eq, bne_eq_false_iff_eq, decide_eq_true_eq, decide_eq_false_iff_not] at *
    · rw [if_pos (by omega)] at hQ; exact hQ
    · rw [if_pos (by omega)] at hQ; exact hQ
    · rw [if_neg (by omega), if_pos (.inl c2)] at hQ; exact hQ
    · rw [if_neg (by omega), if_pos (by omega)] at hQ; exact hQ
    · rw [if_neg (by omega), if_pos (by omega)] at hQ; exact hQ
    · rw [if_neg (by omega), if_pos (by omega)] at hQ; exact hQ
    · rw [if_neg (by omega), if_neg (by omega), if_neg (by rw [c6, c7]; simp)] at hQ; exact hQ
    · rw [if_neg (by omega), if_neg (by omega), if_pos (.inr c7)] at hQ; exact hQ
    · rw [if_neg (by omega), if_neg (by omega), if_pos (.inl c6)] at hQ; exact hQ
  · exact hq.elim
theorem okT8 : OkSp Try.prog H0 T8 := ⟨⟨ok14, ok16, okT7.fn⟩, trivial⟩
end Go.Proofs.YthihinlamlamhaaE
/- What script.Of makes is checked as OK. -/
namespace Go.Proofs.YthihinlamlamhaaE
open Go
set_option linter.unusedVariables false
set_option linter.unusedSimpArgs false
set_option maxRecDepth 100000

theorem tk_all (rs : List (List AV)) : List.take (0 + rs.length) (List.drop 0 ([] ++ rs)) = rs := by rw [List.nil_append, List.drop_zero, Nat.zero_add, List.take_length]
theorem scheck_of {n : Int} (np : Nat) {rs : List (List AV)} (hb : s_bytes rs) (h1 : 6 ≤ n) (h2 : n ≤ 12) :
    s_scheck n np (s_rowi (s_on rs n.toNat)) (s_rowi (s_sg (s_drop n.toNat rs) 1 8)) (s_rowi (s_sg (s_drop (n.toNat + 8) rs) 1 8)) (s_calls n np (s_drop (s_rN n rs + 1 + 1) rs) (s_cN n rs))
      ((s_at rs (n.toNat + 8 + 8 + 0)).tmod 3) (s_fat n ((s_at rs (n.toNat + 8 + 8 + 0)).tmod 3) (s_at rs (n.toNat + 8 + 8 + 1))) ((s_at rs (n.toNat + 8 + 8 + 2)).tmod 60) ((s_at rs (n.toNat + 8 + 8 + 2)).tmod 60 + (s_at rs (n.toNat + 8 + 8 + 3)).tmod 60)
      (s_acts (s_drop (n.toNat + 8 + 8 + 5) rs) (s_fA (s_drop (n.toNat + 8 + 8) rs))) (s_rowi (s_sg (s_drop (n.toNat + 8 + 8 + s_fN (s_drop (n.toNat + 8 + 8) rs)) rs) 8 4)) (20 + (s_at rs (s_rN n rs + 0)).tmod 40) = 0 := by
  have o1 : (s_rowi (s_on rs n.toNat)).length = n.toNat := by unfold s_rowi; rw [irow_len, on_len]
  have osg : ∀ (r : List (List AV)) (t : Int) (k : Nat), (s_rowi (s_sg r t k)).length = k := fun r t k => by unfold s_rowi; rw [irow_len, sg_len]
  have o2 := at_mod hb (s_rN n rs + 0) (show (0 : Int) < 40 by omega)
  have o3 := at_mod hb (n.toNat + 8 + 8 + 2) (show (0 : Int) < 60 by omega)
  have o4 := at_mod hb (n.toNat + 8 + 8 + 3) (show (0 : Int) < 60 by omega)
  have o5 := at_mod hb (n.toNat + 8 + 8 + 0) (show (0 : Int) < 3 by omega)
  have o6 : s_cN n rs ≤ 15 := by
    unfold s_cN
    have := at_mod hb (s_rN n rs + 1 + 0) (show (0 : Int) < 16 by omega)
    omega
  have o7 : s_fA (s_drop (n.toNat + 8 + 8) rs) ≤ 7 := by
    unfold s_fA
    have := at_mod (bytes_drop (n.toNat + 8 + 8) hb) 4 (show (0 : Int) < 8 by omega)
    omega
  have p1 := p1_on hb n.toNat
  have p2 := p2_calls (n := n) (np := (np : Int)) (by omega) (by omega) (s_cN n rs) (bytes_drop (s_rN n rs + 1 + 1) hb)
  have p3 := p3_acts (s_fA (s_drop (n.toNat + 8 + 8) rs)) (bytes_drop (n.toNat + 8 + 8 + 5) hb)
  have q1 : (s_rowi (s_on rs n.toNat)).all s_on1 = true := by
    rw [List.all_eq_true]
    intro r hr
    have := p1 r hr
    exact in_yes (by omega) (by omega)
  have q2 : (s_calls n np (s_drop (s_rN n rs + 1 + 1) rs) (s_cN n rs)).all (s_ca1 n np) = true := by
    rw [List.all_eq_true]
    intro r hr
    obtain ⟨a1, a2, a3, a4⟩ := p2 r hr
    unfold s_ca1
    rw [in_yes (by omega) (by omega), in_yes (by omega) (by omega), in_yes (by omega) (by omega)]
    rfl
  have q3 : s_long (s_acts (s_drop (n.toNat + 8 + 8 + 5) rs) (s_fA (s_drop (n.toNat + 8 + 8) rs))) = false := long_no fun r hr => by
    have := (p3 r hr).2.2
    unfold actText
    omega
  have q4 : ∀ k b : Int, 0 ≤ b → ¬ (s_fat n k b < 0 ∨ s_places n k ≤ s_fat n k b) := by
    intro k b hb
    unfold s_fat s_places
    have m1 := Int.tmod_nonneg (2 * n) hb
    have m2 := Int.tmod_lt_of_pos b (show 0 < 2 * n by omega)
    have m3 := Int.tmod_nonneg n hb
    have m4 := Int.tmod_lt_of_pos b (show 0 < n by omega)
    by_cases c1 : k = 1
    · rw [if_pos c1, if_neg (by omega), if_pos c1]; omega
    · rw [if_neg c1]
      by_cases c2 : k = 2
      · rw [if_pos c2, if_pos c2]; omega
      · rw [if_neg c2, if_neg c2, if_neg c1]; omega
  unfold s_scheck
  rw [if_neg (by omega), if_neg (by rw [o1, osg, osg, calls_len]; omega), if_neg (by rw [q1, q2]; simp)]
  unfold s_fcheck
  rw [if_neg (by omega), if_neg (q4 _ _ (at_le hb _).1), if_neg (by omega), if_neg (by rw [acts_len, osg]; omega), if_neg (by rw [q3]; simp)]
end Go.Proofs.YthihinlamlamhaaE
