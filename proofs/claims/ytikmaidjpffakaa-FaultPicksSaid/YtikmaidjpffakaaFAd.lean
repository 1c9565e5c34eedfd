/- Specs of FaultPicks: a number's bits, the row of acts. -/
import Derived.Test.YtikmaidjpffakaaF6d
namespace Go.Proofs.YtikmaidjpffakaaE
open Go
set_option linter.unusedVariables false

def s_bitB (n k : Int) : Bool := IntKind.i64.wrap (((BitVec.ofInt IntKind.i64.bits (n.fdiv ((2 : Int) ^ min (IntKind.u64.wrap k).toNat (64 : Nat))) &&& BitVec.ofInt IntKind.i64.bits (1 : Int)).toNat : Nat) : Int) == (1 : Int)
def bitsG (n : Int) : Nat → ByteArray → ByteArray
  | 0, s => s
  | i + 1, s => bitsG n i (s ++ if s_bitB n i = true then ⟨#[49]⟩ else ⟨#[48]⟩)
def s_bits (n size : Int) : ByteArray := if size < 1 ∨ 62 < size then ⟨#[]⟩ else bitsG n size.toNat ⟨#[]⟩
def lBits : LW := fun vals h Q => match vals, h with
  | [.int .i64 n, .str s, .int .i64 k], [] => Hyp (-1 ≤ k ∧ k ≤ 62 ∧ (s.size : Int) + k ≤ 1000) ∧ Q (.exit 0) [.str (bitsG n (k + 1).toNat s)] []
  | _, _ => False
def sBits : SW := fun args h Q => match args, h with
  | [.int .i64 n, .int .i64 size], [] => Q (.str (s_bits n size), [])
  | _, _ => False
def s_picks (i : Nat) : List (List AV) := (List.range i).map fun (j : Nat) => [.int .i64 3, .int .i64 0, .str (s_bits (j : Int) 6)]
def lPicks : LW := fun vals h Q => match vals, h with
  | [.int .i64 x, .int .i64 ro, .int .i64 sl, .int .i64 to_, .ptr 0 0, .ptr 1 0, .int .i64 i], .box [.int .i64 n, .int .i64 pi, .int .i64 e, .int .i64 g, .int .i64 fi, .row nl [.int .i64] rs] :: .box [.int .i64 k, .int .i64 a, .int .i64 f, .int .i64 t, A, .nils] :: rest => match A, rest with
    | .nils, [] => Hyp (i = 0 ∧ 1 ≤ x ∧ x ≤ 40) ∧ Q (.exit 0) [.int .i64 x, .int .i64 ro, .int .i64 sl, .int .i64 to_, .ptr 0 0, .ptr 1 0]
        [.box [.int .i64 n, .int .i64 pi, .int .i64 e, .int .i64 g, .int .i64 fi, .row nl [.int .i64] rs], .box [.int .i64 k, .int .i64 a, .int .i64 f, .int .i64 t, .sl 2 0 x.toNat, .nils], .arr 2 37 [.int .i64, .int .i64, .str] (s_picks x.toNat)]
    | .sl 2 0 m, [.arr 2 37 [.int .i64, .int .i64, .str] rows] => (i = m ∧ m ≤ x ∧ x ≤ 40 ∧ 1 ≤ x ∧ rows = s_picks m) ∧ Q (.exit 0) [.int .i64 x, .int .i64 ro, .int .i64 sl, .int .i64 to_, .ptr 0 0, .ptr 1 0]
        [.box [.int .i64 n, .int .i64 pi, .int .i64 e, .int .i64 g, .int .i64 fi, .row nl [.int .i64] rs], .box [.int .i64 k, .int .i64 a, .int .i64 f, .int .i64 t, .sl 2 0 x.toNat, .nils], .arr 2 37 [.int .i64, .int .i64, .str] (s_picks x.toNat)]
    | _, _ => False
  | _, _ => False
def SAL : Sp := ⟨S9.fn, [(37, 5, lBits)]⟩
def SA : Sp := ⟨(37, sBits) :: S9.fn, []⟩
def SAP : Sp := ⟨SA.fn, [(7, 7, lPicks)]⟩
end Go.Proofs.YtikmaidjpffakaaE
