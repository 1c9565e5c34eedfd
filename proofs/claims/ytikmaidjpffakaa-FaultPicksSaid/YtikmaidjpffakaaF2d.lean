/- Specs, more: clean fronts, links, what a locus emits. -/
import Derived.Test.YtikmaidjpffakaaF1p
namespace Go.Proofs.YtikmaidjpffakaaE
open Go
set_option linter.unusedVariables false

def cleanN : List UInt8 → Nat
  | [] => 0
  | b :: l => if b = 35 then 1 else if b = 48 ∨ b = 49 then cleanN l + 1 else 0
def s_clean (s : ByteArray) : ByteArray := s.extract 0 (cleanN s.data.toList)
def sClean : SW := fun args h Q => match args, h with
  | [.str s], [] => Hyp ((s.size : Int) ≤ 4611686018427387904) ∧ Q (.str (s_clean s), [])
  | _, _ => False
/-- Program and document: where a text's front ends. -/
def lCleanP : LW := fun vals h Q => match vals, h with
  | [.str s, .ptr 0 0], [.iter s' p] => Hyp (s' = s ∧ p ≤ s.size ∧ (s.size : Int) ≤ 4611686018427387904 ∧ cleanN s.data.toList = p + cleanN (s.data.toList.drop p)) ∧
      ((cleanN s.data.toList = s.size → Q (.exit 0) [.str s] []) ∧ Q .ret [.str (s_clean s)] [])
  | _, _ => False
def lCleanD : LW := fun vals h Q => match vals, h with
  | [.str s, .int .i64 i], [] => Hyp (0 ≤ i ∧ i ≤ s.size ∧ (s.size : Int) ≤ 4611686018427387904 ∧ cleanN s.data.toList = i.toNat + cleanN (s.data.toList.drop i.toNat)) ∧
      ((cleanN s.data.toList = s.size → Q (.exit 0) [.str s] []) ∧ Q .ret [.str (s_clean s)] [])
  | _, _ => False
def sAt : SW := fun args h Q => match args, h with
  | [.int .i64 n, .int .i64 i, .int .i64 d], [] => Hyp (0 < n ∧ n ≤ 1000000 ∧ -1000000 ≤ i ∧ i ≤ 1000000 ∧ -1000000 ≤ d ∧ d ≤ 1000000) ∧ Q (.int .i64 (s_rem (i + d) n), [])
  | _, _ => False
def s_linkO (n a b : Int) : Option Int :=
  if a < 0 ∨ b < 0 ∨ n ≤ a ∨ n ≤ b then none
  else if s_rem (a + 1) n = b then some a
  else if s_rem (b + 1) n = a then some b
  else if s_rem (a + 2) n = b then some (a + n)
  else if s_rem (b + 2) n = a then some (b + n)
  else none
def s_linkN (n a b : Int) : Int := (s_linkO n a b).getD 0
def s_linkB (n a b : Int) : Bool := (s_linkO n a b).isSome
def sLink : SW := fun args h Q => match args, h with
  | [.int .i64 n, .int .i64 a, .int .i64 b], [] => Hyp (0 < n ∧ n ≤ 1000) ∧ Q (.tup [.int .i64 (s_linkN n a b), .bool (s_linkB n a b)], [])
  | _, _ => False
def sKnown : SW := fun args h Q => match args, h with
  | [], [] => Q (.bool true, [])
  | _, _ => False
def sNo : SW := fun args h Q => False
def s_hit (n kind at_ fm dst : Int) : Bool :=
  if kind = 1 then fm == at_ else if kind = 2 then s_linkB n fm dst && (s_linkN n fm dst == at_) else false
def s_right (kind at_ to_ ro node : Int) : Bool := !(kind == 1) || !(node == at_) || decide (ro ≥ to_)
def isRN : AV → Bool
  | .row _ _ _ => true
  | .nils => true
  | _ => false
def sHits : SW := fun args h Q => match args, h with
  | [.agg [.int .i64 n, .int .i64 pi, .int .i64 e, .int .i64 g, .int .i64 fi, .row nl [.int .i64] rs], .agg [.int .i64 kind, .int .i64 at_, .int .i64 fr, .int .i64 to_, .row nl2 [.int .i64, .int .i64, .str] acts, devs], .int .i64 fm, .int .i64 dst], [] =>
    chk (isRN devs = true) (Hyp (0 < n ∧ n ≤ 1000) ∧ Q (.bool (s_hit n kind at_ fm dst), []))
  | _, _ => False
def sRight : SW := fun args h Q => match args, h with
  | [.agg [.int .i64 n, .int .i64 pi, .int .i64 e, .int .i64 g, .int .i64 fi, .row nl [.int .i64] rs], .agg [.int .i64 kind, .int .i64 at_, .int .i64 fr, .int .i64 to_, .row nl2 [.int .i64, .int .i64, .str] acts, devs], .int .i64 ro, .int .i64 node], [] =>
    chk (isRN devs = true) (Q (.bool (s_right kind at_ to_ ro node), []))
  | _, _ => False
def s_done (how n : Int) (text base : ByteArray) : ByteArray :=
  if s_rem how 7 = 1 then base else if s_rem how 7 = 2 then base.extract 0 (s_rem n (base.size + 1)).toNat else if s_rem how 7 = 3 then s_clean text else ⟨#[]⟩
def sDone : SW := fun args h Q => match args, h with
  | [.agg [.int .i64 n, .int .i64 pi, .int .i64 e, .int .i64 g, .int .i64 fi, .row nl [.int .i64] rs], .agg [.int .i64 how, .int .i64 m, .str text], .int .i64 ro, .int .i64 sl, .str base], [] =>
    Hyp (s_rem how 7 ≤ 3 ∧ (base.size : Int) ≤ 2305843009213693952 ∧ (text.size : Int) ≤ 2305843009213693952) ∧ Q (.str (s_done how m text base), [])
  | _, _ => False
def actHow (r : List AV) : Int := (r.getD 0 AV.gone).toI
def actN (r : List AV) : Int := (r.getD 1 AV.gone).toI
def actText (r : List AV) : ByteArray := (r.getD 2 AV.gone).toS
def s_emit (hit : Bool) (fr to_ : Int) (acts : List (List AV)) (ro sl dst : Int) (base : ByteArray) : ByteArray :=
  if hit = false ∨ ro ≥ to_ then base else if ro < fr ∨ acts.length = 0 then ⟨#[]⟩
  else s_done (actHow (acts.getD (s_rem (17 * ro + 5 * sl + dst) acts.length).toNat [])) (actN (acts.getD (s_rem (17 * ro + 5 * sl + dst) acts.length).toNat [])) (actText (acts.getD (s_rem (17 * ro + 5 * sl + dst) acts.length).toNat [])) base
def s_actsOk (acts : List (List AV)) : Prop := acts.length ≤ 1000 ∧ ∀ r ∈ acts, s_rem (actHow r) 7 ≤ 3 ∧ ((actText r).size : Int) ≤ 2305843009213693952
def sEmit : SW := fun args h Q => match args, h with
  | [.agg [.int .i64 n, .int .i64 pi, .int .i64 e, .int .i64 g, .int .i64 fi, .row nl [.int .i64] rs], .agg [.int .i64 kind, .int .i64 at_, .int .i64 fr, .int .i64 to_, .row nl2 [.int .i64, .int .i64, .str] acts, devs], .int .i64 ro, .int .i64 sl, .int .i64 fm, .int .i64 dst, .str base], [] =>
    chk (isRN devs = true) (Hyp (s_confOk n pi e g fi (ints rs) = true ∧ 0 ≤ ro ∧ ro ≤ 1000000 ∧ 0 ≤ sl ∧ sl ≤ 1000000 ∧ 0 ≤ dst ∧ dst ≤ 1000000 ∧ (base.size : Int) ≤ 2305843009213693952 ∧ s_actsOk acts) ∧ Q (.str (s_emit (s_hit n kind at_ fm dst) fr to_ acts ro sl dst base), []))
  | _, _ => False
/-- The document's search for a link. -/
def refL (n a b : Int) : Nat → Int → Option Int
  | 0, _ => none
  | u + 1, k => if (if k < n then (k = a ∧ s_rem (k + 1) n = b) ∨ (k = b ∧ s_rem (k + 1) n = a) else (k - n = a ∧ s_rem (k - n + 2) n = b) ∨ (k - n = b ∧ s_rem (k - n + 2) n = a)) then some k else refL n a b u (k + 1)
def lRefLink : LW := fun vals h Q => match vals, h with
  | [.int .i64 n, .int .i64 a, .int .i64 b, .int .i64 k], [] => Hyp (0 < n ∧ n ≤ 1000 ∧ 0 ≤ k ∧ k ≤ 2 * n) ∧
      ((refL n a b (2 * n - k).toNat k = none → Q (.exit 0) [] []) ∧ (∀ m, refL n a b (2 * n - k).toNat k = some m → Q .ret [.int .i64 m, .bool true] []))
  | _, _ => False
def sRefLink : SW := fun args h Q => match args, h with
  | [.int .i64 n, .int .i64 a, .int .i64 b], [] => Hyp (6 ≤ n ∧ n ≤ 12 ∧ 0 ≤ a ∧ a < n ∧ 0 ≤ b ∧ b < n) ∧ Q (.tup [.int .i64 (s_linkN n a b), .bool (s_linkB n a b)], [])
  | _, _ => False
def S3L : Sp := ⟨S1.fn, [(69, 2, lCleanP), (31, 2, lCleanD), (36, 2, lRefLink)]⟩
def S3 : Sp := ⟨(69, sClean) :: (31, sClean) :: (128, sAt) :: (36, sRefLink) :: (13, sMake) :: (29, sText) :: (49, sCheck) :: S1.fn, []⟩
def S4 : Sp := ⟨(127, sLink) :: (11, sKnown) :: S3.fn, []⟩
def S5 : Sp := ⟨(25, sHits) :: (27, sRight) :: (50, sPick) :: S4.fn, []⟩
def S5n : Sp := ⟨(71, sNo) :: (72, sNo) :: (73, sNo) :: (70, sNo) :: S5.fn, []⟩
def S6 : Sp := ⟨(51, sDone) :: S5.fn, []⟩
def S7 : Sp := ⟨(23, sEmit) :: S6.fn, []⟩
end Go.Proofs.YtikmaidjpffakaaE
