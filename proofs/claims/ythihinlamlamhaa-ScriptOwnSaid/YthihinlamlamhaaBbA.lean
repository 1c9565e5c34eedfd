/- The hints of this program: which slots live, which slices are rows. -/
import Derived.Test.YthihinlamlamhaaBaC
import Derived.Test.YthihinlamlamhaaChecked
import Derived.KernelRfl
namespace Go.Proofs.YthihinlamlamhaaE
open Go
set_option maxRecDepth 100000
def tabK : List (Nat × Nat × List Nat) := [(7, 10, [5, 6, 7]),
 (7, 15, [5, 6, 8]),
 (7, 21, [6, 10]),
 (8, 9, [1, 2, 7, 8, 9, 10]),
 (8, 18, [7, 9, 11, 12]),
 (8, 23, [7, 9, 11, 13]),
 (10, 6, [1, 2, 3, 4]),
 (11, 13, [2, 4, 7, 9, 43, 44]),
 (12, 4, [2, 3, 5]),
 (12, 9, [2, 3, 6]),
 (13, 4, [2, 4, 5, 6, 7]),
 (13, 23, [2, 4, 5, 6, 9, 10]),
 (16, 6, [2, 3, 5]),
 (16, 11, [2, 3, 6]),
 (19, 4, [1, 3, 4, 17, 18]),
 (23, 3, [1, 5, 10, 11]),
 (25, 12, [0, 4, 5, 44, 45]),
 (28, 4, [0, 1, 5]),
 (30, 3, [0, 1, 2, 7, 8]),
 (32, 4, [0, 3, 4, 5]),
 (32, 10, [0, 3, 4, 5, 6, 7, 8]),
 (39, 2, [1, 3]),
 (40, 14, [3, 6]),
 (45, 3, [0, 3, 5, 6]),
 (46, 2, [0, 1, 7, 8]),
 (47, 2, [0, 1, 7, 8]),
 (51, 2, [0, 1, 7, 8])]
def tabX : List (Nat × Nat × List Nat) := [(7, 0, [5, 6]),
 (7, 2, [6]),
 (7, 4, [6]),
 (8, 0, [1, 7, 9]),
 (8, 2, [7, 9, 11]),
 (8, 4, [7, 9]),
 (10, 0, [2, 3]),
 (11, 0, [4, 7]),
 (12, 0, [2, 3]),
 (12, 2, [2, 3]),
 (13, 0, [2, 4, 5, 6]),
 (13, 3, [4, 6]),
 (16, 0, [2, 3]),
 (16, 2, [2, 3]),
 (19, 0, [1]),
 (23, 0, [5]),
 (25, 1, [0, 4, 5]),
 (28, 0, []),
 (30, 0, [7]),
 (32, 0, [3]),
 (32, 2, [0, 3, 4, 5, 6]),
 (39, 0, [1]),
 (40, 1, []),
 (45, 0, [3]),
 (46, 0, []),
 (47, 0, []),
 (51, 0, [])]
def tabR : List (Nat × Nat × List Nat) := [(3, 0, [4]),
 (4, 0, [10]),
 (5, 0, [8]),
 (6, 0, [2]),
 (7, 0, [4]),
 (8, 0, [6]),
 (9, 0, [0]),
 (10, 0, [2]),
 (11, 0, [4]),
 (12, 0, [4]),
 (13, 0, [4]),
 (14, 0, [4]),
 (15, 0, [2]),
 (16, 0, [4]),
 (17, 0, [4]),
 (18, 0, [4]),
 (19, 0, [2]),
 (20, 0, [2]),
 (21, 0, [1]),
 (22, 0, [4]),
 (23, 0, [4]),
 (24, 0, [4]),
 (25, 0, [4]),
 (26, 0, [4]),
 (27, 0, [2]),
 (28, 0, [4]),
 (29, 0, [4]),
 (30, 0, [6]),
 (31, 0, [2]),
 (32, 0, [2]),
 (33, 0, [2]),
 (34, 0, [6]),
 (35, 0, [3]),
 (36, 0, [4]),
 (37, 0, [4]),
 (38, 0, [4]),
 (39, 0, [2]),
 (40, 0, [4]),
 (41, 0, [6]),
 (42, 0, [3]),
 (43, 0, [2]),
 (44, 0, [2]),
 (45, 0, [2]),
 (46, 0, [4]),
 (47, 0, [4]),
 (48, 0, [4]),
 (49, 0, [4]),
 (50, 0, [2]),
 (51, 0, [4])]
def tabF : List (Nat × List (List (List K))) := [(10, [[[], [], [], [], [], [.int .i64]]]), (25, [[[], [], [], [], [.int .i64, .int .i64, .str], [.int .i64]]]), (20, [[[.int .u8]]]), (27, [[[.int .i64, .int .i64, .int .i64, .int .i64]]]), (23, [[[.int .i64]]]), (30, [[[.int .i64]]]), (32, [[[.int .i64, .int .i64, .str]]]), (11, [[[.int .i64], [.int .i64], [.int .i64], [.int .i64, .int .i64, .int .i64, .int .i64], [], [], [], [], [.int .i64, .int .i64, .str], [.int .i64], []]])]
def look (f r : Nat) : List (Nat × Nat × List Nat) → Option (List Nat)
  | [] => none
  | (a, b, l) :: t => match Nat.beq a f, Nat.beq b r with
    | true, true => some l
    | _, _ => look f r t
def lookF (f : Nat) : List (Nat × List (List (List K))) → List (List (List K))
  | [] => []
  | (a, l) :: t => match Nat.beq a f with
    | true => l
    | false => lookF f t
def memB (f : Nat) : List Nat → Bool
  | [] => false
  | a :: t => match Nat.beq a f with
    | true => true
    | false => memB f t
def tabA : List Nat := []
/-- Functions whose results keep their slices; those whose arguments do. -/
def tabN : List Nat := [13]
def tabM : List Nat := [11, 20]
def kScr : List (List K) := [[.int .i64], [.int .i64], [.int .i64], [.int .i64, .int .i64, .int .i64, .int .i64], [], [], [], [], [.int .i64, .int .i64, .str], [.int .i64], []]
/-- Which nil slices among arguments become empty rows. -/
def tabZ : List (Nat × List (List (List K))) := [(12, [kScr, kScr]), (14, [[], kScr]), (16, [[], kScr])]
def noneF (b : Bool) (l : List (List (List K))) : Option (List (List (List K))) := match b with
  | true => none
  | false => some l
def H0 : Hints := ⟨fun f r => (look f r tabK).getD [], fun f r => look f r tabX, fun f => look f 0 tabR, fun f => memB f tabA, fun f => noneF (memB f tabN) (lookF f tabF), fun f => noneF (memB f tabM) (lookF f tabZ), fun _ => none⟩
theorem pr_ok : PrOk Try.prog H0 := fun _ _ h => by cases h
theorem ok_prog : okProg Try.prog = true := by kernel_rfl
end Go.Proofs.YthihinlamlamhaaE
/- Specs for ScriptKnown. -/
namespace Go.Proofs.YthihinlamlamhaaE
open Go
set_option linter.unusedVariables false

abbrev cf (n pi e g fi : Int) (nl : Bool) (rs : List (List AV)) : AV := .agg [.int .i64 n, .int .i64 pi, .int .i64 e, .int .i64 g, .int .i64 fi, .row nl [.int .i64] rs]
def s_rem (a n : Int) : Int := a % n
def sWithin : SW := fun args h Q => match args, h with
  | [.int .i64 a, .int .i64 n], [] => chk (0 < n ∧ n < 9223372036854775808) (Q (.int .i64 (s_rem a n), []))
  | _, _ => False
def sKnown : SW := fun args h Q => match args, h with
  | [], [] => Q (.bool true, [])
  | _, _ => False
def S0 : Sp := ⟨[], []⟩
def S1 : Sp := ⟨[(17, sWithin), (18, sWithin), (9, sKnown)], []⟩
end Go.Proofs.YthihinlamlamhaaE
/- What path mode says of functions, printed by a program of this session; the kernel holds each. -/
namespace Go.Proofs.YthihinlamlamhaaE
open Go
set_option maxRecDepth 100000
set_option linter.unusedVariables false
theorem nf9 (Q : AV × List AObj → Prop) : inlW Try.prog H0 S0 60 (InO Try.prog H0 S0 60 12) 9 [] [] Q = (
Q ((AV.bool true, []))) := by kernel_rfl
theorem nf17 (a n : Int) (Q : AV × List AObj → Prop) : inlW Try.prog H0 S0 6 (InO Try.prog H0 S0 6 6) 17 [.int .i64 a, .int .i64 n] [] Q = (
chk (n ≠ (0 : Int)) (br (decide (a.tmod n < (0 : Int)))
 (Q ((AV.int IntKind.i64 (IntKind.i64.wrap (a.tmod n + n)), [])))
 (Q ((AV.int IntKind.i64 (a.tmod n), []))))) := by kernel_rfl
theorem nf18 (a n : Int) (Q : AV × List AObj → Prop) : inlW Try.prog H0 S0 6 (InO Try.prog H0 S0 6 6) 18 [.int .i64 a, .int .i64 n] [] Q = (
chk (n ≠ (0 : Int)) (br (decide (a.tmod n < (0 : Int)))
 (Q ((AV.int IntKind.i64 (IntKind.i64.wrap (a.tmod n + n)), [])))
 (Q ((AV.int IntKind.i64 (a.tmod n), []))))) := by kernel_rfl
theorem nf6 (n : Int) (Q : AV × List AObj → Prop) : inlW Try.prog H0 S1 60 (InO Try.prog H0 S1 60 12) 6 [.int .i64 n] [] Q = (
Q ((AV.bool
    ((IntKind.i64.wrap (62 : Int)).tmod (60 : Int) == (2 : Int) &&
      ((IntKind.i64.wrap (7 : Int)).tmod (6 : Int) == (1 : Int) &&
        ((IntKind.i64.wrap (3 : Int)).tmod (2 : Int) == (1 : Int) &&
          (IntKind.i64.wrap (IntKind.u8.wrap (s_rem n (256 : Int))) == s_rem n (256 : Int) && true)))),
  []))) := by kernel_rfl
end Go.Proofs.YthihinlamlamhaaE
/- ScriptKnown: the specs hold, and the law. -/
namespace Go.Proofs.YthihinlamlamhaaE
open Go
set_option linter.unusedVariables false
set_option linter.unusedSimpArgs false
set_option maxRecDepth 100000

theorem to {a b : Prop} (e : a = b) (h : b) : a := e ▸ h
theorem wr {x : Int} (h1 : -9223372036854775808 ≤ x) (h2 : x ≤ 9223372036854775807) : IntKind.i64.wrap x = x := by
  rw [IntKind.wrap_i64]; omega
theorem tmod_rem (a : Int) {n : Int} (h : 0 < n) : (a.tmod n < 0 → a.tmod n + n = s_rem a n) ∧ (¬ a.tmod n < 0 → a.tmod n = s_rem a n) := by
  unfold s_rem
  have e := Int.tmod_eq_emod (a := a) (b := n)
  have h1 := Int.emod_nonneg a (show n ≠ 0 by omega)
  have h2 := Int.emod_lt_of_pos a h
  have hn : (n.natAbs : Int) = n := by omega
  constructor
  · intro hlt
    rw [e] at hlt ⊢
    split at hlt
    · omega
    · rename_i hc; rw [if_neg hc]; omega
  · intro hge
    rw [e] at hge ⊢
    split at hge
    · rename_i hc; rw [if_pos hc]; omega
    · omega
theorem rem_lt (a : Int) {n : Int} (h : 0 < n) : 0 ≤ s_rem a n ∧ s_rem a n < n := ⟨Int.emod_nonneg a (by omega), Int.emod_lt_of_pos a h⟩
theorem okS0 : OkSp Try.prog H0 S0 := ⟨trivial, trivial⟩
theorem within_ok {g : FuncId} (nf : ∀ (a n : Int) (Q : AV × List AObj → Prop), inlW Try.prog H0 S0 6 (InO Try.prog H0 S0 6 6) g [.int .i64 a, .int .i64 n] [] Q = (chk (n ≠ (0 : Int)) (br (decide (a.tmod n < (0 : Int)))
 (Q ((AV.int IntKind.i64 (IntKind.i64.wrap (a.tmod n + n)), [])))
 (Q ((AV.int IntKind.i64 (a.tmod n), [])))))) : OkS Try.prog H0 g sWithin := by
  intro args h Q hq
  unfold sWithin at hq
  split at hq
  · rename_i a n
    obtain ⟨⟨h0, h1⟩, hq⟩ := chk_iff.1 hq
    refine in_ok (S := S0) (U := 6) (k := 6) okS0 ?_
    refine to (nf ..) ?_
    have hr := rem_lt a h0
    refine chk_iff.2 ⟨by omega, br_intro (fun hc => ?_) (fun hc => ?_)⟩
    · have := (tmod_rem a h0).1 (of_decide_eq_true hc)
      rw [this, wr (by omega) (by omega)]; exact hq
    · rw [(tmod_rem a h0).2 (of_decide_eq_false hc)]; exact hq
  · exact hq.elim
theorem ok9 : OkS Try.prog H0 9 sKnown := by
  intro args h Q hq
  unfold sKnown at hq
  split at hq
  · exact in_ok (S := S0) (U := 60) (k := 12) okS0 (to (nf9 ..) hq)
  · exact hq.elim
theorem okS1 : OkSp Try.prog H0 S1 := ⟨⟨within_ok nf17, within_ok nf18, ok9, trivial⟩, trivial⟩
theorem known_holds (n : Int) : inlW Try.prog H0 S1 60 (InO Try.prog H0 S1 60 12) 6 [.int .i64 n] [] (fun r => r.1 = .bool true) := by
  refine to (nf6 ..) ?_
  have rN := rem_lt n (show (0 : Int) < 256 by omega)
  generalize s_rem n 256 = z at *
  have wu : IntKind.u8.wrap z = z := by
    have e : IntKind.u8.wrap z = z % 256 := by simp [IntKind.wrap, IntKind.bits, IntKind.signed]
    rw [e, Int.emod_eq_of_lt (by omega) (by omega)]
  rw [wu, wr (x := z) (by omega) (by omega), wr (x := 62) (by omega) (by omega), wr (x := 7) (by omega) (by omega), wr (x := 3) (by omega) (by omega)]
  have e1 : ((62 : Int).tmod 60 == 2) = true := by decide
  have e2 : ((7 : Int).tmod 6 == 1) = true := by decide
  have e3 : ((3 : Int).tmod 2 == 1) = true := by decide
  simp only [e1, e2, e3, beq_self_eq_true, Bool.and_self]
end Go.Proofs.YthihinlamlamhaaE
/- A script's bytes as a stream: the functions that read. -/
namespace Go.Proofs.YthihinlamlamhaaE
open Go
set_option linter.unusedVariables false

/-- The next byte; 0 behind the end. -/
def s_hd (rs : List (List AV)) : Int := if rs.length = 0 then 0 else IntKind.i64.wrap ((rs.getD 0 []).getD 0 AV.gone).toI
/-- The byte at place i. -/
def s_at (rs : List (List AV)) (i : Nat) : Int := s_hd (rs.drop i)
def s_drop (n : Nat) (rs : List (List AV)) : List (List AV) := rs.drop n
/-- All are bytes. -/
def s_bytes (rs : List (List AV)) : Prop := ∀ r ∈ rs, 0 ≤ (r.getD 0 AV.gone).toI ∧ (r.getD 0 AV.gone).toI ≤ 255
def sNext : SW := fun args h Q => match args, h with
  | [.ptr 0 0], [.box [.row nl [.int .u8] rs]] => Q (.int .i64 (s_hd rs), [.box [.row nl [.int .u8] (s_drop 1 rs)]])
  | _, _ => False
def sOf : SW := fun args h Q => match args, h with
  | [.ptr 0 0, .int .i64 n], [.box [.row nl [.int .u8] rs]] => chk (n ≠ 0) (Q (.int .i64 ((s_hd rs).tmod n), [.box [.row nl [.int .u8] (s_drop 1 rs)]]))
  | _, _ => False
def s_on (rs : List (List AV)) (n : Nat) : List Int := (List.range n).map fun i => (s_at rs i).tmod 24
def s_sg (rs : List (List AV)) (t : Int) (n : Nat) : List Int := (List.range n).map fun i => IntKind.i64.wrap (IntKind.i64.wrap (s_at rs i - 128) * t)
/-- A row of numbers, of either kind. -/
def sRow : SW := fun args h Q => match args, h with
  | [.int .i64 n, .fn (.func 21) [] [.ptr 0 0]], [.box [.ptr 1 0], .box [.row nl [.int .u8] rs]] => Hyp (0 ≤ n ∧ n ≤ 100) ∧ Q (.row false [.int .i64] (irow .i64 (s_on rs n.toNat)), [.box [.ptr 1 0], .box [.row nl [.int .u8] (s_drop n.toNat rs)]])
  | [.int .i64 n, .fn (.func 44) [] [.ptr 0 0, .ptr 2 0]], [.box [.ptr 1 0], .box [.row nl [.int .u8] rs], .box [.int .i64 t]] =>
    Hyp (0 ≤ n ∧ n ≤ 100) ∧ Q (.row false [.int .i64] (irow .i64 (s_sg rs t n.toNat)), [.box [.ptr 1 0], .box [.row nl [.int .u8] (s_drop n.toNat rs)], .box [.int .i64 t]])
  | _, _ => False
/-- So many symbols, each by a byte. -/
def s_text (rs : List (List AV)) : Nat → Nat → ByteArray → ByteArray
  | 0, _, s => s
  | k + 1, p, s => s_text rs k (p + 1) (s ++ if (s_at rs p).tmod 3 = 0 then ⟨#[48]⟩ else if (s_at rs p).tmod 3 = 1 then ⟨#[49]⟩ else ⟨#[35]⟩)
def sText : SW := fun args h Q => match args, h with
  | [.ptr 0 0], [.box [.row nl [.int .u8] rs]] => Hyp (s_bytes rs) ∧ Q (.str (s_text rs ((s_hd rs).tmod 4).toNat 1 ⟨#[]⟩), [.box [.row nl [.int .u8] (s_drop (1 + ((s_hd rs).tmod 4).toNat) rs)]])
  | _, _ => False
/-- The row's state in its loop: so many are filled in. -/
def lRowA : LW := fun vals h Q => match vals, h with
  | [.fn (.func 21) [] [.ptr 0 0], .sl 2 0 n, .int .i64 m, .int .i64 i], [.box [.ptr 1 0], .box [.row nl [.int .u8] rs], .arr 2 3 [.int .i64] rows] =>
    Hyp (m = n ∧ 0 ≤ i ∧ i ≤ m ∧ n ≤ 100 ∧ rows.length = n ∧ ∀ r ∈ rows, r.length = 1) ∧ ∀ rows', rows' = rows.take i.toNat ++ irow .i64 (s_on rs (n - i.toNat)) → Q (.exit 0) [.sl 2 0 n] [.box [.ptr 1 0], .box [.row nl [.int .u8] (s_drop (n - i.toNat) rs)], .arr 2 3 [.int .i64] rows']
  | _, _ => False
def lRowB : LW := fun vals h Q => match vals, h with
  | [.fn (.func 44) [] [.ptr 0 0, .ptr 2 0], .sl 3 0 n, .int .i64 m, .int .i64 i], [.box [.ptr 1 0], .box [.row nl [.int .u8] rs], .box [.int .i64 t], .arr 2 3 [.int .i64] rows] =>
    Hyp (m = n ∧ 0 ≤ i ∧ i ≤ m ∧ n ≤ 100 ∧ rows.length = n ∧ ∀ r ∈ rows, r.length = 1) ∧ ∀ rows', rows' = rows.take i.toNat ++ irow .i64 (s_sg rs t (n - i.toNat)) → Q (.exit 0) [.sl 3 0 n] [.box [.ptr 1 0], .box [.row nl [.int .u8] (s_drop (n - i.toNat) rs)], .box [.int .i64 t], .arr 2 3 [.int .i64] rows']
  | _, _ => False
/-- The text's loop: i of m symbols are there. -/
def lText : LW := fun vals h Q => match vals, h with
  | [.ptr 0 0, .str s, .int .i64 m, .int .i64 i], [.box [.row nl [.int .u8] rs]] =>
    Hyp (0 ≤ i ∧ i ≤ m ∧ m ≤ 1000 ∧ s.size = i ∧ s_bytes rs) ∧ Q (.exit 0) [.str (s_text rs (m - i).toNat 0 s)] [.box [.row nl [.int .u8] (s_drop (m - i).toNat rs)]]
  | _, _ => False
def S2 : Sp := ⟨(43, sNext) :: S1.fn, []⟩
def S3 : Sp := ⟨(22, sOf) :: S2.fn, []⟩
def S3L : Sp := ⟨S3.fn, [(23, 2003, lRowA), (23, 3003, lRowB), (45, 1003, lText)]⟩
def S4 : Sp := ⟨(23, sRow) :: (45, sText) :: S3.fn, []⟩
end Go.Proofs.YthihinlamlamhaaE
/- What path mode says of functions, printed by a program of this session; the kernel holds each. -/
namespace Go.Proofs.YthihinlamlamhaaE
open Go
set_option maxRecDepth 100000
set_option linter.unusedVariables false
theorem nf43 (nl : Bool) (rs : List (List AV)) (Q : AV × List AObj → Prop) : inlW Try.prog H0 S1 6 (InO Try.prog H0 S1 6 6) 43 [.ptr 0 0] [.box [.row nl [.int .u8] rs]] Q = (
br ((↑rs.length : Int) == (0 : Int))
 (Q ((AV.int IntKind.i64 (0 : Int), [AObj.box [AV.row nl [K.int IntKind.u8] rs]])))
 (chk ((0 : Int) ≤ (0 : Int) ∧ (0 : Int) < (↑rs.length : Int)) (chk ((0 : Int) ≤ (1 : Int) ∧ (1 : Int) ≤ (↑rs.length : Int)) (Q ((AV.int IntKind.i64 (IntKind.i64.wrap ((rs.getD (0 : Nat) []).getD (0 : Nat) AV.gone).toI),
  [AObj.box [AV.row nl [K.int IntKind.u8] (List.drop (1 : Nat) (List.take rs.length rs))]])))))) := by kernel_rfl
theorem nf22 (n : Int) (nl : Bool) (rs : List (List AV)) (Q : AV × List AObj → Prop) : inlW Try.prog H0 S2 6 (InO Try.prog H0 S2 6 6) 22 [.ptr 0 0, .int .i64 n] [.box [.row nl [.int .u8] rs]] Q = (
chk (n ≠ (0 : Int)) (Q ((AV.int IntKind.i64 ((s_hd rs).tmod n), [AObj.box [AV.row nl [K.int IntKind.u8] (s_drop (1 : Nat) rs)]])))) := by kernel_rfl
theorem nf23a (n : Int) (nl : Bool) (rs : List (List AV)) (Q : AV × List AObj → Prop) : inlW Try.prog H0 S3L 6 (InO Try.prog H0 S3L 6 6) 23 [.int .i64 n, .fn (.func 21) [] [.ptr 0 0]] [.box [.ptr 1 0], .box [.row nl [.int .u8] rs]] Q = (
chk ((0 : Int) ≤ n ∧ n ≤ n ∧ (↑(8 : Nat) : Int) * n ≤ (140737488355328 : Int)) (chk (n ≤ (9223372036854775807 : Int)) (((Hyp ((↑n.toNat : Int) = (↑n.toNat : Int) ∧
  (0 : Int) ≤ (0 : Int) ∧
    (0 : Int) ≤ (↑n.toNat : Int) ∧
      n.toNat ≤ (100 : Nat) ∧
        (List.replicate n.toNat [AV.int IntKind.i64 (0 : Int)]).length = n.toNat ∧
          ∀ (r : List AV),
            r ∈
                mapRows (fun x => idx x [nat_lit 0, nat_lit 1, nat_lit 2])
                  (shapeOf
                    (ctxW Try.prog H0 (23 : FuncId)
                        [AObj.box [AV.ptr (1 : Nat) (0 : Nat)], AObj.box [AV.row nl [K.int IntKind.u8] rs]].length).P
                    (20 : Nat) (3 : Nat))
                  (List.replicate n.toNat [cst (Value.int IntKind.i64 (0 : Int))]) →
              r.length = (1 : Nat))) ∧
((∀ (rows'103 : List (List AV)),
((rows'103 = [] ++ List.map (fun n => [AV.int IntKind.i64 n]) (s_on rs (n.toNat - (0 : Nat)))) →
chk ((0 : Nat) + n.toNat ≤ rows'103.length) (Q ((AV.row false [K.int IntKind.i64] (List.take n.toNat (List.drop (0 : Nat) rows'103)),
  [AObj.box [AV.ptr (1 : Nat) (0 : Nat)], AObj.box [AV.row nl [K.int IntKind.u8] (s_drop (n.toNat - (0 : Nat)) rs)]])))))))))) := by kernel_rfl
theorem nf23b (n t : Int) (nl : Bool) (rs : List (List AV)) (Q : AV × List AObj → Prop) : inlW Try.prog H0 S3L 6 (InO Try.prog H0 S3L 6 6) 23 [.int .i64 n, .fn (.func 44) [] [.ptr 0 0, .ptr 2 0]] [.box [.ptr 1 0], .box [.row nl [.int .u8] rs], .box [.int .i64 t]] Q = (
chk ((0 : Int) ≤ n ∧ n ≤ n ∧ (↑(8 : Nat) : Int) * n ≤ (140737488355328 : Int)) (chk (n ≤ (9223372036854775807 : Int)) (((Hyp ((↑n.toNat : Int) = (↑n.toNat : Int) ∧
  (0 : Int) ≤ (0 : Int) ∧
    (0 : Int) ≤ (↑n.toNat : Int) ∧
      n.toNat ≤ (100 : Nat) ∧
        (List.replicate n.toNat [AV.int IntKind.i64 (0 : Int)]).length = n.toNat ∧
          ∀ (r : List AV),
            r ∈
                mapRows (fun x => idx x [nat_lit 0, nat_lit 1, nat_lit 2, nat_lit 3])
                  (shapeOf
                    (ctxW Try.prog H0 (23 : FuncId)
                        [AObj.box [AV.ptr (1 : Nat) (0 : Nat)], AObj.box [AV.row nl [K.int IntKind.u8] rs],
                            AObj.box [AV.int IntKind.i64 t]].length).P
                    (20 : Nat) (3 : Nat))
                  (List.replicate n.toNat [cst (Value.int IntKind.i64 (0 : Int))]) →
              r.length = (1 : Nat))) ∧
((∀ (rows'103 : List (List AV)),
((rows'103 = [] ++ List.map (fun n => [AV.int IntKind.i64 n]) (s_sg rs t (n.toNat - (0 : Nat)))) →
chk ((0 : Nat) + n.toNat ≤ rows'103.length) (Q ((AV.row false [K.int IntKind.i64] (List.take n.toNat (List.drop (0 : Nat) rows'103)),
  [AObj.box [AV.ptr (1 : Nat) (0 : Nat)], AObj.box [AV.row nl [K.int IntKind.u8] (s_drop (n.toNat - (0 : Nat)) rs)],
    AObj.box [AV.int IntKind.i64 t]])))))))))) := by kernel_rfl
theorem nf23c (m i : Int) (n : Nat) (nl : Bool) (rs rows : List (List AV)) (Q : Ex → List AV → List AObj → Prop) : lpBody Try.prog H0 S3 6 6 23 2003 [.fn (.func 21) [] [.ptr 0 0], .sl 2 0 n, .int .i64 m, .int .i64 i] [.box [.ptr 1 0], .box [.row nl [.int .u8] rs], .arr 2 3 [.int .i64] rows] Q = (
br (decide (i < m))
 (chk ((0 : Int) ≤ i ∧ i < (↑n : Int)) (chk ((0 : Nat) + i.toNat < rows.length) (Q (Ex.nrm) ([AV.fn (Fn.func (21 : Nat)) [] [AV.ptr (0 : Nat) (0 : Nat)], AV.sl (2 : Nat) (0 : Nat) n, AV.int IntKind.i64 m,
  AV.int IntKind.i64 (IntKind.i64.wrap (i + (1 : Int)))]) ([AObj.box [AV.ptr (1 : Nat) (0 : Nat)], AObj.box [AV.row nl [K.int IntKind.u8] (s_drop (1 : Nat) rs)],
  AObj.arr (2 : Nat) (3 : Nat) [K.int IntKind.i64]
    (rows.set ((0 : Nat) + i.toNat)
      (AV.int IntKind.i64 ((s_hd rs).tmod (24 : Int)) ::
        List.drop ((0 : Nat) + (1 : Nat)) (rows.getD ((0 : Nat) + i.toNat) [])))]))))
 (Q (Ex.exit (0 : Nat)) ([AV.sl (2 : Nat) (0 : Nat) n]) ([AObj.box [AV.ptr (1 : Nat) (0 : Nat)], AObj.box [AV.row nl [K.int IntKind.u8] rs],
  AObj.arr (2 : Nat) (3 : Nat) [K.int IntKind.i64] rows]))) := by kernel_rfl
theorem nf23d (m i t : Int) (n : Nat) (nl : Bool) (rs rows : List (List AV)) (Q : Ex → List AV → List AObj → Prop) : lpBody Try.prog H0 S3 6 6 23 3003 [.fn (.func 44) [] [.ptr 0 0, .ptr 2 0], .sl 3 0 n, .int .i64 m, .int .i64 i] [.box [.ptr 1 0], .box [.row nl [.int .u8] rs], .box [.int .i64 t], .arr 2 3 [.int .i64] rows] Q = (
br (decide (i < m))
 (chk ((0 : Int) ≤ i ∧ i < (↑n : Int)) (chk ((0 : Nat) + i.toNat < rows.length) (Q (Ex.nrm) ([AV.fn (Fn.func (44 : Nat)) [] [AV.ptr (0 : Nat) (0 : Nat), AV.ptr (2 : Nat) (0 : Nat)], AV.sl (3 : Nat) (0 : Nat) n,
  AV.int IntKind.i64 m, AV.int IntKind.i64 (IntKind.i64.wrap (i + (1 : Int)))]) ([AObj.box [AV.ptr (1 : Nat) (0 : Nat)], AObj.box [AV.row nl [K.int IntKind.u8] (s_drop (1 : Nat) rs)],
  AObj.box [AV.int IntKind.i64 t],
  AObj.arr (2 : Nat) (3 : Nat) [K.int IntKind.i64]
    (rows.set ((0 : Nat) + i.toNat)
      (AV.int IntKind.i64 (IntKind.i64.wrap (IntKind.i64.wrap (s_hd rs - (128 : Int)) * t)) ::
        List.drop ((0 : Nat) + (1 : Nat)) (rows.getD ((0 : Nat) + i.toNat) [])))]))))
 (Q (Ex.exit (0 : Nat)) ([AV.sl (3 : Nat) (0 : Nat) n]) ([AObj.box [AV.ptr (1 : Nat) (0 : Nat)], AObj.box [AV.row nl [K.int IntKind.u8] rs], AObj.box [AV.int IntKind.i64 t],
  AObj.arr (2 : Nat) (3 : Nat) [K.int IntKind.i64] rows]))) := by kernel_rfl
theorem nf45 (nl : Bool) (rs : List (List AV)) (Q : AV × List AObj → Prop) : inlW Try.prog H0 S3L 6 (InO Try.prog H0 S3L 6 6) 45 [.ptr 0 0] [.box [.row nl [.int .u8] rs]] Q = (
((Hyp ((0 : Int) ≤ (0 : Int) ∧
  (0 : Int) ≤ (s_hd rs).tmod (4 : Int) ∧
    (s_hd rs).tmod (4 : Int) ≤ (1000 : Int) ∧ (0 : Int) = (0 : Int) ∧ s_bytes (s_drop (1 : Nat) rs))) ∧
(Q ((AV.str (s_text (s_drop (1 : Nat) rs) ((s_hd rs).tmod (4 : Int) - (0 : Int)).toNat (0 : Nat) (ByteArray.mk #[])),
  [AObj.box [AV.row nl [K.int IntKind.u8] (s_drop ((s_hd rs).tmod (4 : Int) - (0 : Int)).toNat (s_drop (1 : Nat) rs))]]))))) := by kernel_rfl
theorem nf45a (m i : Int) (s : ByteArray) (nl : Bool) (rs : List (List AV)) (Q : Ex → List AV → List AObj → Prop) : lpBody Try.prog H0 S3 6 6 45 1003 [.ptr 0 0, .str s, .int .i64 m, .int .i64 i] [.box [.row nl [.int .u8] rs]] Q = (
br (decide (i < m))
 (chk ((0 : Int) ≤ (s_hd rs).tmod (3 : Int) ∧ (s_hd rs).tmod (3 : Int) < (3 : Int)) (chk ((s.size +
        (Utf8.encode
            (↑((ByteArray.mk #[(48 : UInt8), (49 : UInt8), (35 : UInt8)]).data.toList.getD ((s_hd rs).tmod (3 : Int)).toNat
                    (0 : UInt8)).toNat :
              Int)).size).ble
    (9223372036854775807 : Nat) =
  true) (Q (Ex.nrm) ([AV.ptr (0 : Nat) (0 : Nat),
  AV.str
    (s ++
      Utf8.encode
        (↑((ByteArray.mk #[(48 : UInt8), (49 : UInt8), (35 : UInt8)]).data.toList.getD ((s_hd rs).tmod (3 : Int)).toNat
                (0 : UInt8)).toNat :
          Int)),
  AV.int IntKind.i64 m, AV.int IntKind.i64 (IntKind.i64.wrap (i + (1 : Int)))]) ([AObj.box [AV.row nl [K.int IntKind.u8] (s_drop (1 : Nat) rs)]]))))
 (Q (Ex.exit (0 : Nat)) ([AV.str s]) ([AObj.box [AV.row nl [K.int IntKind.u8] rs]]))) := by kernel_rfl
end Go.Proofs.YthihinlamlamhaaE
/- Rows and texts of a stream of bytes: the specs hold. -/
namespace Go.Proofs.YthihinlamlamhaaE
open Go
set_option linter.unusedVariables false
set_option linter.unusedSimpArgs false
set_option maxRecDepth 100000

theorem irow_len (k : IntKind) (l : List Int) : (irow k l).length = l.length := by simp [irow]
theorem ok43 : OkS Try.prog H0 43 sNext := by
  intro args h Q hq
  unfold sNext at hq
  split at hq
  · rename_i nl rs
    refine in_ok (S := S1) (U := 6) (k := 6) okS1 (to (nf43 ..) ?_)
    unfold s_hd s_drop at hq
    refine br_intro (fun c => ?_) fun c => ?_
    · have c := beq_iff_eq.1 c
      have : rs = [] := List.eq_nil_of_length_eq_zero (by omega)
      subst this
      exact hq
    · have c := beq_eq_false_iff_ne.1 c
      rw [if_neg (by omega)] at hq
      rw [chk_iff, chk_iff]
      refine ⟨by omega, by omega, ?_⟩
      rw [List.take_length]; exact hq
  · exact hq.elim
theorem okS2 : OkSp Try.prog H0 S2 := ⟨⟨ok43, okS1.fn⟩, trivial⟩
theorem ok22 : OkS Try.prog H0 22 sOf := by
  intro args h Q hq
  unfold sOf at hq
  split at hq
  · exact in_ok (S := S2) (U := 6) (k := 6) okS2 (to (nf22 ..) hq)
  · exact hq.elim
theorem okS3 : OkSp Try.prog H0 S3 := ⟨⟨ok22, okS2.fn⟩, trivial⟩
theorem at_succ (rs : List (List AV)) (i : Nat) : s_at rs (i + 1) = s_at (s_drop 1 rs) i := by
  unfold s_at s_drop; rw [List.drop_drop, Nat.add_comm]
theorem on_succ (rs : List (List AV)) (n : Nat) : s_on rs (n + 1) = (s_hd rs).tmod 24 :: s_on (s_drop 1 rs) n := by
  unfold s_on
  rw [List.range_succ_eq_map, List.map_cons, List.map_map]
  congr 1
  exact List.map_congr_left fun i _ => by simp only [Function.comp]; rw [at_succ]
theorem sg_succ (rs : List (List AV)) (t : Int) (n : Nat) : s_sg rs t (n + 1) = IntKind.i64.wrap (IntKind.i64.wrap (s_hd rs - 128) * t) :: s_sg (s_drop 1 rs) t n := by
  unfold s_sg
  rw [List.range_succ_eq_map, List.map_cons, List.map_map]
  congr 1
  exact List.map_congr_left fun i _ => by simp only [Function.comp]; rw [at_succ]
theorem drop_succ (rs : List (List AV)) (n : Nat) : s_drop n (s_drop 1 rs) = s_drop (n + 1) rs := by
  unfold s_drop; rw [List.drop_drop, Nat.add_comm]
theorem set_one {rows : List (List AV)} {i : Nat} {x : AV} (hi : i < rows.length) (h1 : ∀ r ∈ rows, r.length = 1) : rows.set (0 + i) (x :: List.drop (0 + 1) (rows.getD (0 + i) [])) = rows.set i [x] := by
  have : (rows.getD i []).length = 1 := by
    have := h1 (rows[i]) (List.getElem_mem hi)
    rw [List.getD_eq_getElem?_getD, List.getElem?_eq_getElem hi]; exact this
  rw [Nat.zero_add, List.drop_eq_nil_of_le (by rw [this]; omega)]
theorem set_take {rows : List (List AV)} {i : Nat} {x : List AV} (hi : i < rows.length) : (rows.set i x).take (i + 1) = rows.take i ++ [x] := by
  rw [List.take_succ_eq_append_getElem (by rw [List.length_set]; exact hi), List.take_set_of_le (by omega)]
  simp
theorem set_mem {rows : List (List AV)} {i : Nat} {x : AV} (h1 : ∀ r ∈ rows, r.length = 1) : ∀ r ∈ rows.set i [x], r.length = 1 := fun r hr => by
  rcases List.mem_or_eq_of_mem_set hr with h | h
  · exact h1 r h
  · rw [h]; rfl
abbrev muR : List AV → List AObj → Nat := fun vals _ => match vals with | [_, _, .int _ m, .int _ i] => (m - i).toNat | _ => 0
theorem okLRowA : OkLp Try.prog H0 23 2003 lRowA := by
  refine okLp_of (U := 6) (k := 6) okS3 lRowA muR fun vals h Q hl => ?_
  unfold lRowA at hl
  split at hl
  · rename_i n m i nl rs rows
    obtain ⟨⟨hm, h0, h1, h2, h3, h4⟩, hq⟩ := hyp_iff.1 hl
    subst hm
    refine to (nf23c ..) (br_intro (fun hc => ?_) fun hc => ?_)
    · have hc := of_decide_eq_true hc
      rw [chk_iff, chk_iff]
      refine ⟨by omega, by omega, ?_⟩
      rw [set_one (by omega) h4, wr (x := i + 1) (by omega) (by omega)]
      refine ⟨by show ((n : Int) - (i + 1)).toNat < ((n : Int) - i).toNat; omega, .mk ⟨rfl, by omega, by omega, h2, by rw [List.length_set]; exact h3, set_mem h4⟩, fun rows' hr => ?_⟩
      have e : n - i.toNat = (n - (i + 1).toNat) + 1 := by omega
      rw [drop_succ, ← e]
      refine hq rows' ?_
      rw [hr, show (i + 1).toNat = i.toNat + 1 by omega, set_take (by omega), show n - i.toNat = (n - (i.toNat + 1)) + 1 by omega, on_succ]
      simp [irow]
    · have hc := of_decide_eq_false hc
      have e : n - i.toNat = 0 := by omega
      rw [e] at hq
      have := hq rows (by rw [List.take_of_length_le (by omega)]; simp [s_on, irow])
      exact this
  · exact hl.elim
theorem okLRowB : OkLp Try.prog H0 23 3003 lRowB := by
  refine okLp_of (U := 6) (k := 6) okS3 lRowB muR fun vals h Q hl => ?_
  unfold lRowB at hl
  split at hl
  · rename_i n m i nl rs t rows
    obtain ⟨⟨hm, h0, h1, h2, h3, h4⟩, hq⟩ := hyp_iff.1 hl
    subst hm
    refine to (nf23d ..) (br_intro (fun hc => ?_) fun hc => ?_)
    · have hc := of_decide_eq_true hc
      rw [chk_iff, chk_iff]
      refine ⟨by omega, by omega, ?_⟩
      rw [set_one (by omega) h4, wr (x := i + 1) (by omega) (by omega)]
      refine ⟨by show ((n : Int) - (i + 1)).toNat < ((n : Int) - i).toNat; omega, .mk ⟨rfl, by omega, by omega, h2, by rw [List.length_set]; exact h3, set_mem h4⟩, fun rows' hr => ?_⟩
      have e : n - i.toNat = (n - (i + 1).toNat) + 1 := by omega
      rw [drop_succ, ← e]
      refine hq rows' ?_
      rw [hr, show (i + 1).toNat = i.toNat + 1 by omega, set_take (by omega), show n - i.toNat = (n - (i.toNat + 1)) + 1 by omega, sg_succ]
      simp [irow]
    · have hc := of_decide_eq_false hc
      have e : n - i.toNat = 0 := by omega
      rw [e] at hq
      have := hq rows (by rw [List.take_of_length_le (by omega)]; simp [s_sg, irow])
      exact this
  · exact hl.elim
theorem hd_le {rs : List (List AV)} (h : s_bytes rs) : 0 ≤ s_hd rs ∧ s_hd rs ≤ 255 := by
  unfold s_hd
  split
  · omega
  · rename_i hl
    have := h (rs.getD 0 []) (by rw [List.getD_eq_getElem?_getD, List.getElem?_eq_getElem (by omega : 0 < rs.length)]; simp)
    rw [wr (by omega) (by omega)]; exact this
theorem bytes_drop {rs : List (List AV)} (n : Nat) (h : s_bytes rs) : s_bytes (s_drop n rs) := fun r hr => h r (List.mem_of_mem_drop hr)
theorem text_drop (rs : List (List AV)) : ∀ (k p : Nat) (s : ByteArray), s_text (s_drop 1 rs) k p s = s_text rs k (p + 1) s
  | 0, _, _ => rfl
  | k + 1, p, s => by simp only [s_text]; rw [text_drop rs k, at_succ]
theorem okLText : OkLp Try.prog H0 45 1003 lText := by
  refine okLp_of (U := 6) (k := 6) okS3 lText (fun vals _ => match vals with | [_, _, .int _ m, .int _ i] => (m - i).toNat | _ => 0) fun vals h Q hl => ?_
  unfold lText at hl
  split at hl
  · rename_i s m i nl rs
    obtain ⟨⟨h0, h1, h2, h3, h4⟩, hq⟩ := hyp_iff.1 hl
    refine to (nf45a ..) (br_intro (fun hc => ?_) fun hc => ?_)
    · have hc := of_decide_eq_true hc
      have hb := hd_le h4
      have hr := Int.tmod_nonneg 3 hb.1
      have hr2 := Int.tmod_lt_of_pos (s_hd rs) (show (0 : Int) < 3 by omega)
      have key : Utf8.encode ((((ByteArray.mk #[(48 : UInt8), (49 : UInt8), (35 : UInt8)]).data.toList.getD ((s_hd rs).tmod (3 : Int)).toNat (0 : UInt8)).toNat : Nat) : Int) = (if (s_hd rs).tmod 3 = 0 then ⟨#[48]⟩ else if (s_hd rs).tmod 3 = 1 then ⟨#[49]⟩ else ⟨#[35]⟩ : ByteArray) := by
        have : (s_hd rs).tmod 3 = 0 ∨ (s_hd rs).tmod 3 = 1 ∨ (s_hd rs).tmod 3 = 2 := by omega
        rcases this with e | e | e <;> rw [e] <;> decide +kernel
      have hsz : (if (s_hd rs).tmod 3 = 0 then ⟨#[48]⟩ else if (s_hd rs).tmod 3 = 1 then ⟨#[49]⟩ else ⟨#[35]⟩ : ByteArray).size = 1 := by
        split
        · rfl
        · split <;> rfl
      rw [chk_iff, chk_iff, key]
      rw [show (m - i).toNat = (m - (i + 1)).toNat + 1 by omega] at hq
      simp only [s_text] at hq
      have ha : s_at rs 0 = s_hd rs := by unfold s_at; rw [List.drop_zero]
      rw [ha] at hq
      generalize (if (s_hd rs).tmod 3 = 0 then ⟨#[48]⟩ else if (s_hd rs).tmod 3 = 1 then ⟨#[49]⟩ else ⟨#[35]⟩ : ByteArray) = u at *
      refine ⟨⟨hr, hr2⟩, by rw [hsz, Nat.ble_eq]; omega, ?_⟩
      rw [wr (x := i + 1) (by omega) (by omega)]
      refine ⟨by show (m - (i + 1)).toNat < (m - i).toNat; omega, .mk ⟨by omega, by omega, h2, by rw [ByteArray.size_append, hsz]; omega, bytes_drop 1 h4⟩, ?_⟩
      rw [text_drop, drop_succ]; exact hq
    · have hc := of_decide_eq_false hc
      rw [show (m - i).toNat = 0 by omega] at hq
      exact hq
  · exact hl.elim
theorem okS3L : OkSp Try.prog H0 S3L := ⟨okS3.fn, okLRowA, okLRowB, okLText, trivial⟩
theorem on_len (rs : List (List AV)) (n : Nat) : (s_on rs n).length = n := by simp [s_on]
theorem sg_len (rs : List (List AV)) (t : Int) (n : Nat) : (s_sg rs t n).length = n := by simp [s_sg]
theorem ok23 : OkS Try.prog H0 23 sRow := by
  intro args h Q hq
  unfold sRow at hq
  split at hq
  · rename_i n nl rs
    obtain ⟨h0, hQ⟩ := hyp_iff.1 hq
    refine in_ok (S := S3L) (U := 6) (k := 6) okS3L (to (nf23a ..) ?_)
    rw [chk_iff, chk_iff]
    refine ⟨by omega, by omega, .mk ⟨rfl, by omega, by omega, by omega, by simp, fun r hr => by rw [List.eq_of_mem_replicate hr]; rfl⟩, fun rows' hr => ?_⟩
    have hr2 : rows' = irow .i64 (s_on rs n.toNat) := hr
    subst hr2
    rw [chk_iff, irow_len, on_len, List.drop_zero, List.take_of_length_le (by rw [irow_len, on_len]; omega)]
    exact ⟨by omega, hQ⟩
  · rename_i n nl rs t
    obtain ⟨h0, hQ⟩ := hyp_iff.1 hq
    refine in_ok (S := S3L) (U := 6) (k := 6) okS3L (to (nf23b ..) ?_)
    rw [chk_iff, chk_iff]
    refine ⟨by omega, by omega, .mk ⟨rfl, by omega, by omega, by omega, by simp, fun r hr => by rw [List.eq_of_mem_replicate hr]; rfl⟩, fun rows' hr => ?_⟩
    have hr2 : rows' = irow .i64 (s_sg rs t n.toNat) := hr
    subst hr2
    rw [chk_iff, irow_len, sg_len, List.drop_zero, List.take_of_length_le (by rw [irow_len, sg_len]; omega)]
    exact ⟨by omega, hQ⟩
  · exact hq.elim
theorem ok45 : OkS Try.prog H0 45 sText := by
  intro args h Q hq
  unfold sText at hq
  split at hq
  · rename_i nl rs
    obtain ⟨h0, hQ⟩ := hyp_iff.1 hq
    have hb := hd_le h0
    have hr := Int.tmod_nonneg 4 hb.1
    have hr2 := Int.tmod_lt_of_pos (s_hd rs) (show (0 : Int) < 4 by omega)
    refine in_ok (S := S3L) (U := 6) (k := 6) okS3L (to (nf45 ..) ⟨.mk ⟨by omega, hr, by omega, rfl, bytes_drop 1 h0⟩, ?_⟩)
    rw [text_drop, drop_succ, Int.sub_zero, show ((s_hd rs).tmod 4).toNat + 1 = 1 + ((s_hd rs).tmod 4).toNat from Nat.add_comm ..]; exact hQ
  · exact hq.elim
theorem okS4 : OkSp Try.prog H0 S4 := ⟨⟨ok23, ok45, okS3.fn⟩, trivial⟩
end Go.Proofs.YthihinlamlamhaaE
/- Acts, loci, calls, scripts of a stream of bytes. -/
namespace Go.Proofs.YthihinlamlamhaaE
open Go
set_option linter.unusedVariables false

/-- An act; how many bytes it takes. -/
def s_act (rs : List (List AV)) : List AV := [.int .i64 ((s_at rs 0).tmod 7), .int .i64 (s_at rs 1), .str (s_text rs ((s_at rs 2).tmod 4).toNat 3 ⟨#[]⟩)]
def s_actN (rs : List (List AV)) : Nat := 3 + ((s_at rs 2).tmod 4).toNat
def s_acts (rs : List (List AV)) : Nat → List (List AV)
  | 0 => []
  | k + 1 => s_act rs :: s_acts (s_drop (s_actN rs) rs) k
def s_actsN (rs : List (List AV)) : Nat → Nat
  | 0 => 0
  | k + 1 => s_actN rs + s_actsN (s_drop (s_actN rs) rs) k
def s_fat (n k b : Int) : Int := if k = 2 then b.tmod (2 * n) else if k = 1 then b.tmod n else 0
/-- A locus: its cells; how many bytes it takes. -/
def s_fA (rs : List (List AV)) : Nat := ((s_at rs 4).tmod 8).toNat
def s_fN (rs : List (List AV)) : Nat := 5 + s_actsN (s_drop 5 rs) (s_fA rs)
def sFaultS : SW := fun args h Q => match args, h with
  | [.ptr 0 0, .agg [.int .i64 n, .int .i64 pi, .int .i64 e, .int .i64 g, .int .i64 fi, .row nl [.int .i64] ps]], [.box [.row nl2 [.int .u8] rs]] =>
    Hyp (6 ≤ n ∧ n ≤ 12 ∧ s_bytes rs) ∧ Q (.agg [.int .i64 ((s_at rs 0).tmod 3), .int .i64 (s_fat n ((s_at rs 0).tmod 3) (s_at rs 1)), .int .i64 ((s_at rs 2).tmod 60), .int .i64 ((s_at rs 2).tmod 60 + (s_at rs 3).tmod 60),
      .row false [.int .i64, .int .i64, .str] (s_acts (s_drop 5 rs) (s_fA rs)), .row false [.int .i64] (irow .i64 (s_sg (s_drop (s_fN rs) rs) 8 4))], [.box [.row nl2 [.int .u8] (s_drop (s_fN rs + 4) rs)]])
  | _, _ => False
def s_call (n np : Int) (rs : List (List AV)) : List AV := [.int .i64 ((s_at rs 0).tmod 60), .int .i64 ((s_at rs 1).tmod n), .int .i64 ((s_at rs 2).tmod (np + 1)), .int .i64 (s_at rs 3)]
def sCallS : SW := fun args h Q => match args, h with
  | [.ptr 0 0, .agg [.int .i64 n, .int .i64 pi, .int .i64 e, .int .i64 g, .int .i64 fi, .row nl [.int .i64] ps]], [.box [.row nl2 [.int .u8] rs]] =>
    Hyp (n ≠ 0 ∧ ps.length ≤ 100) ∧ Q (.agg [.int .i64 ((s_at rs 0).tmod 60), .int .i64 ((s_at rs 1).tmod n), .int .i64 ((s_at rs 2).tmod ((ps.length : Int) + 1)), .int .i64 (s_at rs 3)], [.box [.row nl2 [.int .u8] (s_drop 4 rs)]])
  | _, _ => False
/-- So many calls. -/
def s_calls (n np : Int) (rs : List (List AV)) : Nat → List (List AV)
  | 0 => []
  | k + 1 => s_call n np rs :: s_calls n np (s_drop 4 rs) k
def s_len3 (rows : List (List AV)) : Prop := ∀ r ∈ rows, r.length = 3
def lFActs : LW := fun vals h Q => match vals, h with
  | [.ptr 0 0, .ptr 1 0, .ptr 2 0, .int .i64 m, .int .i64 i], [.box [.row nl [.int .u8] rs], .box [.int .i64 z1, .int .i64 z2, .int .i64 z3, .int .i64 z4, .nils, .nils], .box [.int .i64 k, .int .i64 a, .int .i64 f, .int .i64 t, .sl 3 0 n, .nils], .arr 2 47 [.int .i64, .int .i64, .str] rows] =>
    Hyp (m = n ∧ 0 ≤ i ∧ i ≤ m ∧ n ≤ 100 ∧ rows.length = n ∧ s_len3 rows ∧ s_bytes rs) ∧ ∀ rows', rows' = rows.take i.toNat ++ s_acts rs (n - i.toNat) →
      Q (.exit 1) [.ptr 0 0, .ptr 1 0, .ptr 2 0] [.box [.row nl [.int .u8] (s_drop (s_actsN rs (n - i.toNat)) rs)], .box [.int .i64 z1, .int .i64 z2, .int .i64 z3, .int .i64 z4, .nils, .nils], .box [.int .i64 k, .int .i64 a, .int .i64 f, .int .i64 t, .sl 3 0 n, .nils], .arr 2 47 [.int .i64, .int .i64, .str] rows']
  | _, _ => False
def S4L : Sp := ⟨S4.fn, [(25, 1012, lFActs)]⟩
def S5 : Sp := ⟨(25, sFaultS) :: (26, sCallS) :: S4.fn, []⟩
end Go.Proofs.YthihinlamlamhaaE
/- What path mode says of functions, printed by a program of this session; the kernel holds each. -/
namespace Go.Proofs.YthihinlamlamhaaE
open Go
set_option maxRecDepth 100000
set_option linter.unusedVariables false
theorem nf26 (n pi e g fi : Int) (nl nl2 : Bool) (ps rs : List (List AV)) (Q : AV × List AObj → Prop) : inlW Try.prog H0 S4 6 (InO Try.prog H0 S4 6 6) 26 [.ptr 0 0, cf n pi e g fi nl ps] [.box [.row nl2 [.int .u8] rs]] Q = (
chk (n ≠ (0 : Int)) (chk (IntKind.i64.wrap ((1 : Int) + (↑ps.length : Int)) ≠ (0 : Int)) (Q ((AV.agg
    [AV.int IntKind.i64 ((s_hd rs).tmod (60 : Int)), AV.int IntKind.i64 ((s_hd (s_drop (1 : Nat) rs)).tmod n),
      AV.int IntKind.i64
        ((s_hd (s_drop (1 : Nat) (s_drop (1 : Nat) rs))).tmod (IntKind.i64.wrap ((1 : Int) + (↑ps.length : Int)))),
      AV.int IntKind.i64 (s_hd (s_drop (1 : Nat) (s_drop (1 : Nat) (s_drop (1 : Nat) rs))))],
  [AObj.box
      [AV.row nl2 [K.int IntKind.u8] (s_drop (1 : Nat) (s_drop (1 : Nat) (s_drop (1 : Nat) (s_drop (1 : Nat) rs))))]]))))) := by kernel_rfl
theorem nf25 (n pi e g fi : Int) (nl nl2 : Bool) (ps rs : List (List AV)) (Q : AV × List AObj → Prop) : inlW Try.prog H0 S4L 6 (InO Try.prog H0 S4L 6 6) 25 [.ptr 0 0, cf n pi e g fi nl ps] [.box [.row nl2 [.int .u8] rs]] Q = (
br ((s_hd rs).tmod (3 : Int) == (2 : Int))
 (chk (IntKind.i64.wrap ((2 : Int) * n) ≠ (0 : Int)) (chk ((0 : Int) ≤ (s_hd (s_drop (1 : Nat) (s_drop (1 : Nat) (s_drop (1 : Nat) (s_drop (1 : Nat) rs))))).tmod (8 : Int) ∧
  (s_hd (s_drop (1 : Nat) (s_drop (1 : Nat) (s_drop (1 : Nat) (s_drop (1 : Nat) rs))))).tmod (8 : Int) ≤
      (s_hd (s_drop (1 : Nat) (s_drop (1 : Nat) (s_drop (1 : Nat) (s_drop (1 : Nat) rs))))).tmod (8 : Int) ∧
    (↑(32 : Nat) : Int) *
        (s_hd (s_drop (1 : Nat) (s_drop (1 : Nat) (s_drop (1 : Nat) (s_drop (1 : Nat) rs))))).tmod (8 : Int) ≤
      (140737488355328 : Int)) (chk ((s_hd (s_drop (1 : Nat) (s_drop (1 : Nat) (s_drop (1 : Nat) (s_drop (1 : Nat) rs))))).tmod (8 : Int) ≤
  (9223372036854775807 : Int)) (((Hyp ((↑((s_hd (s_drop (1 : Nat) (s_drop (1 : Nat) (s_drop (1 : Nat) (s_drop (1 : Nat) rs))))).tmod (8 : Int)).toNat : Int) =
    (↑((s_hd (s_drop (1 : Nat) (s_drop (1 : Nat) (s_drop (1 : Nat) (s_drop (1 : Nat) rs))))).tmod (8 : Int)).toNat :
      Int) ∧
  (0 : Int) ≤ (0 : Int) ∧
    (0 : Int) ≤
        (↑((s_hd (s_drop (1 : Nat) (s_drop (1 : Nat) (s_drop (1 : Nat) (s_drop (1 : Nat) rs))))).tmod (8 : Int)).toNat :
          Int) ∧
      ((s_hd (s_drop (1 : Nat) (s_drop (1 : Nat) (s_drop (1 : Nat) (s_drop (1 : Nat) rs))))).tmod (8 : Int)).toNat ≤
          (100 : Nat) ∧
        (List.replicate
                ((s_hd (s_drop (1 : Nat) (s_drop (1 : Nat) (s_drop (1 : Nat) (s_drop (1 : Nat) rs))))).tmod
                    (8 : Int)).toNat
                [AV.int IntKind.i64 (0 : Int), AV.int IntKind.i64 (0 : Int), AV.str (ByteArray.mk #[])]).length =
            ((s_hd (s_drop (1 : Nat) (s_drop (1 : Nat) (s_drop (1 : Nat) (s_drop (1 : Nat) rs))))).tmod
                (8 : Int)).toNat ∧
          s_len3
              (List.replicate
                ((s_hd (s_drop (1 : Nat) (s_drop (1 : Nat) (s_drop (1 : Nat) (s_drop (1 : Nat) rs))))).tmod
                    (8 : Int)).toNat
                [AV.int IntKind.i64 (0 : Int), AV.int IntKind.i64 (0 : Int), AV.str (ByteArray.mk #[])]) ∧
            s_bytes (s_drop (1 : Nat) (s_drop (1 : Nat) (s_drop (1 : Nat) (s_drop (1 : Nat) (s_drop (1 : Nat) rs))))))) ∧
 ((∀ (rows'105 : List (List AV)),
 ((rows'105 =
  [] ++
    s_acts (s_drop (1 : Nat) (s_drop (1 : Nat) (s_drop (1 : Nat) (s_drop (1 : Nat) (s_drop (1 : Nat) rs)))))
      (((s_hd (s_drop (1 : Nat) (s_drop (1 : Nat) (s_drop (1 : Nat) (s_drop (1 : Nat) rs))))).tmod (8 : Int)).toNat -
        (0 : Nat))) →
 ((Hyp ((0 : Int) ≤ (4 : Int) ∧ (4 : Int) ≤ (100 : Int))) ∧
 (chk ((0 : Nat) +
    ((s_hd (s_drop (1 : Nat) (s_drop (1 : Nat) (s_drop (1 : Nat) (s_drop (1 : Nat) rs))))).tmod (8 : Int)).toNat ≤
  rows'105.length) (Q ((AV.agg
    [AV.int IntKind.i64 ((s_hd rs).tmod (3 : Int)),
      AV.int IntKind.i64 ((s_hd (s_drop (1 : Nat) rs)).tmod (IntKind.i64.wrap ((2 : Int) * n))),
      AV.int IntKind.i64 ((s_hd (s_drop (1 : Nat) (s_drop (1 : Nat) rs))).tmod (60 : Int)),
      AV.int IntKind.i64
        (IntKind.i64.wrap
          ((s_hd (s_drop (1 : Nat) (s_drop (1 : Nat) rs))).tmod (60 : Int) +
            (s_hd (s_drop (1 : Nat) (s_drop (1 : Nat) (s_drop (1 : Nat) rs)))).tmod (60 : Int))),
      AV.row false [K.int IntKind.i64, K.int IntKind.i64, K.str]
        (List.take
          ((s_hd (s_drop (1 : Nat) (s_drop (1 : Nat) (s_drop (1 : Nat) (s_drop (1 : Nat) rs))))).tmod (8 : Int)).toNat
          (List.drop (0 : Nat) rows'105)),
      AV.row false [K.int IntKind.i64]
        [[AV.int IntKind.i64
              (IntKind.i64.wrap
                (IntKind.i64.wrap
                    (s_at
                        (s_drop
                          (s_actsN
                            (s_drop (1 : Nat)
                              (s_drop (1 : Nat) (s_drop (1 : Nat) (s_drop (1 : Nat) (s_drop (1 : Nat) rs)))))
                            (((s_hd (s_drop (1 : Nat) (s_drop (1 : Nat) (s_drop (1 : Nat) (s_drop (1 : Nat) rs))))).tmod
                                  (8 : Int)).toNat -
                              (0 : Nat)))
                          (s_drop (1 : Nat)
                            (s_drop (1 : Nat) (s_drop (1 : Nat) (s_drop (1 : Nat) (s_drop (1 : Nat) rs))))))
                        (0 : Nat) -
                      (128 : Int)) *
                  (8 : Int)))],
          [AV.int IntKind.i64
              (IntKind.i64.wrap
                (IntKind.i64.wrap
                    (s_at
                        (s_drop
                          (s_actsN
                            (s_drop (1 : Nat)
                              (s_drop (1 : Nat) (s_drop (1 : Nat) (s_drop (1 : Nat) (s_drop (1 : Nat) rs)))))
                            (((s_hd (s_drop (1 : Nat) (s_drop (1 : Nat) (s_drop (1 : Nat) (s_drop (1 : Nat) rs))))).tmod
                                  (8 : Int)).toNat -
                              (0 : Nat)))
                          (s_drop (1 : Nat)
                            (s_drop (1 : Nat) (s_drop (1 : Nat) (s_drop (1 : Nat) (s_drop (1 : Nat) rs))))))
                        (1 : Nat) -
                      (128 : Int)) *
                  (8 : Int)))],
          [AV.int IntKind.i64
              (IntKind.i64.wrap
                (IntKind.i64.wrap
                    (s_at
                        (s_drop
                          (s_actsN
                            (s_drop (1 : Nat)
                              (s_drop (1 : Nat) (s_drop (1 : Nat) (s_drop (1 : Nat) (s_drop (1 : Nat) rs)))))
                            (((s_hd (s_drop (1 : Nat) (s_drop (1 : Nat) (s_drop (1 : Nat) (s_drop (1 : Nat) rs))))).tmod
                                  (8 : Int)).toNat -
                              (0 : Nat)))
                          (s_drop (1 : Nat)
                            (s_drop (1 : Nat) (s_drop (1 : Nat) (s_drop (1 : Nat) (s_drop (1 : Nat) rs))))))
                        (2 : Nat) -
                      (128 : Int)) *
                  (8 : Int)))],
          [AV.int IntKind.i64
              (IntKind.i64.wrap
                (IntKind.i64.wrap
                    (s_at
                        (s_drop
                          (s_actsN
                            (s_drop (1 : Nat)
                              (s_drop (1 : Nat) (s_drop (1 : Nat) (s_drop (1 : Nat) (s_drop (1 : Nat) rs)))))
                            (((s_hd (s_drop (1 : Nat) (s_drop (1 : Nat) (s_drop (1 : Nat) (s_drop (1 : Nat) rs))))).tmod
                                  (8 : Int)).toNat -
                              (0 : Nat)))
                          (s_drop (1 : Nat)
                            (s_drop (1 : Nat) (s_drop (1 : Nat) (s_drop (1 : Nat) (s_drop (1 : Nat) rs))))))
                        (3 : Nat) -
                      (128 : Int)) *
                  (8 : Int)))]]],
  [AObj.box
      [AV.row nl2 [K.int IntKind.u8]
          (s_drop (4 : Nat)
            (s_drop
              (s_actsN (s_drop (1 : Nat) (s_drop (1 : Nat) (s_drop (1 : Nat) (s_drop (1 : Nat) (s_drop (1 : Nat) rs)))))
                (((s_hd (s_drop (1 : Nat) (s_drop (1 : Nat) (s_drop (1 : Nat) (s_drop (1 : Nat) rs))))).tmod
                      (8 : Int)).toNat -
                  (0 : Nat)))
              (s_drop (1 : Nat) (s_drop (1 : Nat) (s_drop (1 : Nat) (s_drop (1 : Nat) (s_drop (1 : Nat) rs)))))))]])))))))))))))
 (br ((s_hd rs).tmod (3 : Int) == (1 : Int))
  (chk (n ≠ (0 : Int)) (chk ((0 : Int) ≤ (s_hd (s_drop (1 : Nat) (s_drop (1 : Nat) (s_drop (1 : Nat) (s_drop (1 : Nat) rs))))).tmod (8 : Int) ∧
  (s_hd (s_drop (1 : Nat) (s_drop (1 : Nat) (s_drop (1 : Nat) (s_drop (1 : Nat) rs))))).tmod (8 : Int) ≤
      (s_hd (s_drop (1 : Nat) (s_drop (1 : Nat) (s_drop (1 : Nat) (s_drop (1 : Nat) rs))))).tmod (8 : Int) ∧
    (↑(32 : Nat) : Int) *
        (s_hd (s_drop (1 : Nat) (s_drop (1 : Nat) (s_drop (1 : Nat) (s_drop (1 : Nat) rs))))).tmod (8 : Int) ≤
      (140737488355328 : Int)) (chk ((s_hd (s_drop (1 : Nat) (s_drop (1 : Nat) (s_drop (1 : Nat) (s_drop (1 : Nat) rs))))).tmod (8 : Int) ≤
  (9223372036854775807 : Int)) (((Hyp ((↑((s_hd (s_drop (1 : Nat) (s_drop (1 : Nat) (s_drop (1 : Nat) (s_drop (1 : Nat) rs))))).tmod (8 : Int)).toNat : Int) =
    (↑((s_hd (s_drop (1 : Nat) (s_drop (1 : Nat) (s_drop (1 : Nat) (s_drop (1 : Nat) rs))))).tmod (8 : Int)).toNat :
      Int) ∧
  (0 : Int) ≤ (0 : Int) ∧
    (0 : Int) ≤
        (↑((s_hd (s_drop (1 : Nat) (s_drop (1 : Nat) (s_drop (1 : Nat) (s_drop (1 : Nat) rs))))).tmod (8 : Int)).toNat :
          Int) ∧
      ((s_hd (s_drop (1 : Nat) (s_drop (1 : Nat) (s_drop (1 : Nat) (s_drop (1 : Nat) rs))))).tmod (8 : Int)).toNat ≤
          (100 : Nat) ∧
        (List.replicate
                ((s_hd (s_drop (1 : Nat) (s_drop (1 : Nat) (s_drop (1 : Nat) (s_drop (1 : Nat) rs))))).tmod
                    (8 : Int)).toNat
                [AV.int IntKind.i64 (0 : Int), AV.int IntKind.i64 (0 : Int), AV.str (ByteArray.mk #[])]).length =
            ((s_hd (s_drop (1 : Nat) (s_drop (1 : Nat) (s_drop (1 : Nat) (s_drop (1 : Nat) rs))))).tmod
                (8 : Int)).toNat ∧
          s_len3
              (List.replicate
                ((s_hd (s_drop (1 : Nat) (s_drop (1 : Nat) (s_drop (1 : Nat) (s_drop (1 : Nat) rs))))).tmod
                    (8 : Int)).toNat
                [AV.int IntKind.i64 (0 : Int), AV.int IntKind.i64 (0 : Int), AV.str (ByteArray.mk #[])]) ∧
            s_bytes (s_drop (1 : Nat) (s_drop (1 : Nat) (s_drop (1 : Nat) (s_drop (1 : Nat) (s_drop (1 : Nat) rs))))))) ∧
  ((∀ (rows'106 : List (List AV)),
  ((rows'106 =
  [] ++
    s_acts (s_drop (1 : Nat) (s_drop (1 : Nat) (s_drop (1 : Nat) (s_drop (1 : Nat) (s_drop (1 : Nat) rs)))))
      (((s_hd (s_drop (1 : Nat) (s_drop (1 : Nat) (s_drop (1 : Nat) (s_drop (1 : Nat) rs))))).tmod (8 : Int)).toNat -
        (0 : Nat))) →
  ((Hyp ((0 : Int) ≤ (4 : Int) ∧ (4 : Int) ≤ (100 : Int))) ∧
  (chk ((0 : Nat) +
    ((s_hd (s_drop (1 : Nat) (s_drop (1 : Nat) (s_drop (1 : Nat) (s_drop (1 : Nat) rs))))).tmod (8 : Int)).toNat ≤
  rows'106.length) (Q ((AV.agg
    [AV.int IntKind.i64 ((s_hd rs).tmod (3 : Int)), AV.int IntKind.i64 ((s_hd (s_drop (1 : Nat) rs)).tmod n),
      AV.int IntKind.i64 ((s_hd (s_drop (1 : Nat) (s_drop (1 : Nat) rs))).tmod (60 : Int)),
      AV.int IntKind.i64
        (IntKind.i64.wrap
          ((s_hd (s_drop (1 : Nat) (s_drop (1 : Nat) rs))).tmod (60 : Int) +
            (s_hd (s_drop (1 : Nat) (s_drop (1 : Nat) (s_drop (1 : Nat) rs)))).tmod (60 : Int))),
      AV.row false [K.int IntKind.i64, K.int IntKind.i64, K.str]
        (List.take
          ((s_hd (s_drop (1 : Nat) (s_drop (1 : Nat) (s_drop (1 : Nat) (s_drop (1 : Nat) rs))))).tmod (8 : Int)).toNat
          (List.drop (0 : Nat) rows'106)),
      AV.row false [K.int IntKind.i64]
        [[AV.int IntKind.i64
              (IntKind.i64.wrap
                (IntKind.i64.wrap
                    (s_at
                        (s_drop
                          (s_actsN
                            (s_drop (1 : Nat)
                              (s_drop (1 : Nat) (s_drop (1 : Nat) (s_drop (1 : Nat) (s_drop (1 : Nat) rs)))))
                            (((s_hd (s_drop (1 : Nat) (s_drop (1 : Nat) (s_drop (1 : Nat) (s_drop (1 : Nat) rs))))).tmod
                                  (8 : Int)).toNat -
                              (0 : Nat)))
                          (s_drop (1 : Nat)
                            (s_drop (1 : Nat) (s_drop (1 : Nat) (s_drop (1 : Nat) (s_drop (1 : Nat) rs))))))
                        (0 : Nat) -
                      (128 : Int)) *
                  (8 : Int)))],
          [AV.int IntKind.i64
              (IntKind.i64.wrap
                (IntKind.i64.wrap
                    (s_at
                        (s_drop
                          (s_actsN
                            (s_drop (1 : Nat)
                              (s_drop (1 : Nat) (s_drop (1 : Nat) (s_drop (1 : Nat) (s_drop (1 : Nat) rs)))))
                            (((s_hd (s_drop (1 : Nat) (s_drop (1 : Nat) (s_drop (1 : Nat) (s_drop (1 : Nat) rs))))).tmod
                                  (8 : Int)).toNat -
                              (0 : Nat)))
                          (s_drop (1 : Nat)
                            (s_drop (1 : Nat) (s_drop (1 : Nat) (s_drop (1 : Nat) (s_drop (1 : Nat) rs))))))
                        (1 : Nat) -
                      (128 : Int)) *
                  (8 : Int)))],
          [AV.int IntKind.i64
              (IntKind.i64.wrap
                (IntKind.i64.wrap
                    (s_at
                        (s_drop
                          (s_actsN
                            (s_drop (1 : Nat)
                              (s_drop (1 : Nat) (s_drop (1 : Nat) (s_drop (1 : Nat) (s_drop (1 : Nat) rs)))))
                            (((s_hd (s_drop (1 : Nat) (s_drop (1 : Nat) (s_drop (1 : Nat) (s_drop (1 : Nat) rs))))).tmod
                                  (8 : Int)).toNat -
                              (0 : Nat)))
                          (s_drop (1 : Nat)
                            (s_drop (1 : Nat) (s_drop (1 : Nat) (s_drop (1 : Nat) (s_drop (1 : Nat) rs))))))
                        (2 : Nat) -
                      (128 : Int)) *
                  (8 : Int)))],
          [AV.int IntKind.i64
              (IntKind.i64.wrap
                (IntKind.i64.wrap
                    (s_at
                        (s_drop
                          (s_actsN
                            (s_drop (1 : Nat)
                              (s_drop (1 : Nat) (s_drop (1 : Nat) (s_drop (1 : Nat) (s_drop (1 : Nat) rs)))))
                            (((s_hd (s_drop (1 : Nat) (s_drop (1 : Nat) (s_drop (1 : Nat) (s_drop (1 : Nat) rs))))).tmod
                                  (8 : Int)).toNat -
                              (0 : Nat)))
                          (s_drop (1 : Nat)
                            (s_drop (1 : Nat) (s_drop (1 : Nat) (s_drop (1 : Nat) (s_drop (1 : Nat) rs))))))
                        (3 : Nat) -
                      (128 : Int)) *
                  (8 : Int)))]]],
  [AObj.box
      [AV.row nl2 [K.int IntKind.u8]
          (s_drop (4 : Nat)
            (s_drop
              (s_actsN (s_drop (1 : Nat) (s_drop (1 : Nat) (s_drop (1 : Nat) (s_drop (1 : Nat) (s_drop (1 : Nat) rs)))))
                (((s_hd (s_drop (1 : Nat) (s_drop (1 : Nat) (s_drop (1 : Nat) (s_drop (1 : Nat) rs))))).tmod
                      (8 : Int)).toNat -
                  (0 : Nat)))
              (s_drop (1 : Nat) (s_drop (1 : Nat) (s_drop (1 : Nat) (s_drop (1 : Nat) (s_drop (1 : Nat) rs)))))))]])))))))))))))
  (chk ((0 : Int) ≤ (s_hd (s_drop (1 : Nat) (s_drop (1 : Nat) (s_drop (1 : Nat) (s_drop (1 : Nat) rs))))).tmod (8 : Int) ∧
  (s_hd (s_drop (1 : Nat) (s_drop (1 : Nat) (s_drop (1 : Nat) (s_drop (1 : Nat) rs))))).tmod (8 : Int) ≤
      (s_hd (s_drop (1 : Nat) (s_drop (1 : Nat) (s_drop (1 : Nat) (s_drop (1 : Nat) rs))))).tmod (8 : Int) ∧
    (↑(32 : Nat) : Int) *
        (s_hd (s_drop (1 : Nat) (s_drop (1 : Nat) (s_drop (1 : Nat) (s_drop (1 : Nat) rs))))).tmod (8 : Int) ≤
      (140737488355328 : Int)) (chk ((s_hd (s_drop (1 : Nat) (s_drop (1 : Nat) (s_drop (1 : Nat) (s_drop (1 : Nat) rs))))).tmod (8 : Int) ≤
  (9223372036854775807 : Int)) (((Hyp ((↑((s_hd (s_drop (1 : Nat) (s_drop (1 : Nat) (s_drop (1 : Nat) (s_drop (1 : Nat) rs))))).tmod (8 : Int)).toNat : Int) =
    (↑((s_hd (s_drop (1 : Nat) (s_drop (1 : Nat) (s_drop (1 : Nat) (s_drop (1 : Nat) rs))))).tmod (8 : Int)).toNat :
      Int) ∧
  (0 : Int) ≤ (0 : Int) ∧
    (0 : Int) ≤
        (↑((s_hd (s_drop (1 : Nat) (s_drop (1 : Nat) (s_drop (1 : Nat) (s_drop (1 : Nat) rs))))).tmod (8 : Int)).toNat :
          Int) ∧
      ((s_hd (s_drop (1 : Nat) (s_drop (1 : Nat) (s_drop (1 : Nat) (s_drop (1 : Nat) rs))))).tmod (8 : Int)).toNat ≤
          (100 : Nat) ∧
        (List.replicate
                ((s_hd (s_drop (1 : Nat) (s_drop (1 : Nat) (s_drop (1 : Nat) (s_drop (1 : Nat) rs))))).tmod
                    (8 : Int)).toNat
                [AV.int IntKind.i64 (0 : Int), AV.int IntKind.i64 (0 : Int), AV.str (ByteArray.mk #[])]).length =
            ((s_hd (s_drop (1 : Nat) (s_drop (1 : Nat) (s_drop (1 : Nat) (s_drop (1 : Nat) rs))))).tmod
                (8 : Int)).toNat ∧
          s_len3
              (List.replicate
                ((s_hd (s_drop (1 : Nat) (s_drop (1 : Nat) (s_drop (1 : Nat) (s_drop (1 : Nat) rs))))).tmod
                    (8 : Int)).toNat
                [AV.int IntKind.i64 (0 : Int), AV.int IntKind.i64 (0 : Int), AV.str (ByteArray.mk #[])]) ∧
            s_bytes (s_drop (1 : Nat) (s_drop (1 : Nat) (s_drop (1 : Nat) (s_drop (1 : Nat) (s_drop (1 : Nat) rs))))))) ∧
  ((∀ (rows'105 : List (List AV)),
  ((rows'105 =
  [] ++
    s_acts (s_drop (1 : Nat) (s_drop (1 : Nat) (s_drop (1 : Nat) (s_drop (1 : Nat) (s_drop (1 : Nat) rs)))))
      (((s_hd (s_drop (1 : Nat) (s_drop (1 : Nat) (s_drop (1 : Nat) (s_drop (1 : Nat) rs))))).tmod (8 : Int)).toNat -
        (0 : Nat))) →
  ((Hyp ((0 : Int) ≤ (4 : Int) ∧ (4 : Int) ≤ (100 : Int))) ∧
  (chk ((0 : Nat) +
    ((s_hd (s_drop (1 : Nat) (s_drop (1 : Nat) (s_drop (1 : Nat) (s_drop (1 : Nat) rs))))).tmod (8 : Int)).toNat ≤
  rows'105.length) (Q ((AV.agg
    [AV.int IntKind.i64 ((s_hd rs).tmod (3 : Int)), AV.int IntKind.i64 (0 : Int),
      AV.int IntKind.i64 ((s_hd (s_drop (1 : Nat) (s_drop (1 : Nat) rs))).tmod (60 : Int)),
      AV.int IntKind.i64
        (IntKind.i64.wrap
          ((s_hd (s_drop (1 : Nat) (s_drop (1 : Nat) rs))).tmod (60 : Int) +
            (s_hd (s_drop (1 : Nat) (s_drop (1 : Nat) (s_drop (1 : Nat) rs)))).tmod (60 : Int))),
      AV.row false [K.int IntKind.i64, K.int IntKind.i64, K.str]
        (List.take
          ((s_hd (s_drop (1 : Nat) (s_drop (1 : Nat) (s_drop (1 : Nat) (s_drop (1 : Nat) rs))))).tmod (8 : Int)).toNat
          (List.drop (0 : Nat) rows'105)),
      AV.row false [K.int IntKind.i64]
        [[AV.int IntKind.i64
              (IntKind.i64.wrap
                (IntKind.i64.wrap
                    (s_at
                        (s_drop
                          (s_actsN
                            (s_drop (1 : Nat)
                              (s_drop (1 : Nat) (s_drop (1 : Nat) (s_drop (1 : Nat) (s_drop (1 : Nat) rs)))))
                            (((s_hd (s_drop (1 : Nat) (s_drop (1 : Nat) (s_drop (1 : Nat) (s_drop (1 : Nat) rs))))).tmod
                                  (8 : Int)).toNat -
                              (0 : Nat)))
                          (s_drop (1 : Nat)
                            (s_drop (1 : Nat) (s_drop (1 : Nat) (s_drop (1 : Nat) (s_drop (1 : Nat) rs))))))
                        (0 : Nat) -
                      (128 : Int)) *
                  (8 : Int)))],
          [AV.int IntKind.i64
              (IntKind.i64.wrap
                (IntKind.i64.wrap
                    (s_at
                        (s_drop
                          (s_actsN
                            (s_drop (1 : Nat)
                              (s_drop (1 : Nat) (s_drop (1 : Nat) (s_drop (1 : Nat) (s_drop (1 : Nat) rs)))))
                            (((s_hd (s_drop (1 : Nat) (s_drop (1 : Nat) (s_drop (1 : Nat) (s_drop (1 : Nat) rs))))).tmod
                                  (8 : Int)).toNat -
                              (0 : Nat)))
                          (s_drop (1 : Nat)
                            (s_drop (1 : Nat) (s_drop (1 : Nat) (s_drop (1 : Nat) (s_drop (1 : Nat) rs))))))
                        (1 : Nat) -
                      (128 : Int)) *
                  (8 : Int)))],
          [AV.int IntKind.i64
              (IntKind.i64.wrap
                (IntKind.i64.wrap
                    (s_at
                        (s_drop
                          (s_actsN
                            (s_drop (1 : Nat)
                              (s_drop (1 : Nat) (s_drop (1 : Nat) (s_drop (1 : Nat) (s_drop (1 : Nat) rs)))))
                            (((s_hd (s_drop (1 : Nat) (s_drop (1 : Nat) (s_drop (1 : Nat) (s_drop (1 : Nat) rs))))).tmod
                                  (8 : Int)).toNat -
                              (0 : Nat)))
                          (s_drop (1 : Nat)
                            (s_drop (1 : Nat) (s_drop (1 : Nat) (s_drop (1 : Nat) (s_drop (1 : Nat) rs))))))
                        (2 : Nat) -
                      (128 : Int)) *
                  (8 : Int)))],
          [AV.int IntKind.i64
              (IntKind.i64.wrap
                (IntKind.i64.wrap
                    (s_at
                        (s_drop
                          (s_actsN
                            (s_drop (1 : Nat)
                              (s_drop (1 : Nat) (s_drop (1 : Nat) (s_drop (1 : Nat) (s_drop (1 : Nat) rs)))))
                            (((s_hd (s_drop (1 : Nat) (s_drop (1 : Nat) (s_drop (1 : Nat) (s_drop (1 : Nat) rs))))).tmod
                                  (8 : Int)).toNat -
                              (0 : Nat)))
                          (s_drop (1 : Nat)
                            (s_drop (1 : Nat) (s_drop (1 : Nat) (s_drop (1 : Nat) (s_drop (1 : Nat) rs))))))
                        (3 : Nat) -
                      (128 : Int)) *
                  (8 : Int)))]]],
  [AObj.box
      [AV.row nl2 [K.int IntKind.u8]
          (s_drop (4 : Nat)
            (s_drop
              (s_actsN (s_drop (1 : Nat) (s_drop (1 : Nat) (s_drop (1 : Nat) (s_drop (1 : Nat) (s_drop (1 : Nat) rs)))))
                (((s_hd (s_drop (1 : Nat) (s_drop (1 : Nat) (s_drop (1 : Nat) (s_drop (1 : Nat) rs))))).tmod
                      (8 : Int)).toNat -
                  (0 : Nat)))
              (s_drop (1 : Nat) (s_drop (1 : Nat) (s_drop (1 : Nat) (s_drop (1 : Nat) (s_drop (1 : Nat) rs)))))))]])))))))))))))) := by kernel_rfl
theorem nf25a (k a f t m i z1 z2 z3 z4 : Int) (n : Nat) (nl : Bool) (rows rs : List (List AV)) (Q : Ex → List AV → List AObj → Prop) : lpBody Try.prog H0 S4 6 6 25 1012 [.ptr 0 0, .ptr 1 0, .ptr 2 0, .int .i64 m, .int .i64 i] [.box [.row nl [.int .u8] rs], .box [.int .i64 z1, .int .i64 z2, .int .i64 z3, .int .i64 z4, .nils, .nils], .box [.int .i64 k, .int .i64 a, .int .i64 f, .int .i64 t, .sl 3 0 n, .nils], .arr 2 47 [.int .i64, .int .i64, .str] rows] Q = (
br (decide (i < m))
 (chk ((0 : Int) ≤ i ∧ i < (↑n : Int)) (chk ((0 : Nat) + i.toNat < rows.length) (chk ((0 : Int) ≤ i ∧ i < (↑n : Int)) (chk ((0 : Nat) + i.toNat <
  (rows.set ((0 : Nat) + i.toNat)
      (AV.int IntKind.i64 ((s_hd rs).tmod (7 : Int)) ::
        List.drop ((0 : Nat) + (1 : Nat)) (rows.getD ((0 : Nat) + i.toNat) []))).length) (((Hyp (s_bytes (s_drop (1 : Nat) (s_drop (1 : Nat) rs)))) ∧
 (chk ((0 : Int) ≤ i ∧ i < (↑n : Int)) (chk ((0 : Nat) + i.toNat <
  ((rows.set ((0 : Nat) + i.toNat)
          (AV.int IntKind.i64 ((s_hd rs).tmod (7 : Int)) ::
            List.drop ((0 : Nat) + (1 : Nat)) (rows.getD ((0 : Nat) + i.toNat) []))).set
      ((0 : Nat) + i.toNat)
      (setAll
        ((rows.set ((0 : Nat) + i.toNat)
              (AV.int IntKind.i64 ((s_hd rs).tmod (7 : Int)) ::
                List.drop ((0 : Nat) + (1 : Nat)) (rows.getD ((0 : Nat) + i.toNat) []))).getD
          ((0 : Nat) + i.toNat) [])
        (1 : Nat) [AV.int IntKind.i64 (s_hd (s_drop (1 : Nat) rs))])).length) (Q (Ex.nrm) ([AV.ptr (0 : Nat) (0 : Nat), AV.ptr (1 : Nat) (0 : Nat), AV.ptr (2 : Nat) (0 : Nat), AV.int IntKind.i64 m,
  AV.int IntKind.i64 (IntKind.i64.wrap (i + (1 : Int)))]) ([AObj.box
    [AV.row nl [K.int IntKind.u8]
        (s_drop ((1 : Nat) + ((s_hd (s_drop (1 : Nat) (s_drop (1 : Nat) rs))).tmod (4 : Int)).toNat)
          (s_drop (1 : Nat) (s_drop (1 : Nat) rs)))],
  AObj.box
    [AV.int IntKind.i64 z1, AV.int IntKind.i64 z2, AV.int IntKind.i64 z3, AV.int IntKind.i64 z4, AV.nils, AV.nils],
  AObj.box
    [AV.int IntKind.i64 k, AV.int IntKind.i64 a, AV.int IntKind.i64 f, AV.int IntKind.i64 t,
      AV.sl (3 : Nat) (0 : Nat) n, AV.nils],
  AObj.arr (2 : Nat) (47 : Nat) [K.int IntKind.i64, K.int IntKind.i64, K.str]
    (((rows.set ((0 : Nat) + i.toNat)
              (AV.int IntKind.i64 ((s_hd rs).tmod (7 : Int)) ::
                List.drop ((0 : Nat) + (1 : Nat)) (rows.getD ((0 : Nat) + i.toNat) []))).set
          ((0 : Nat) + i.toNat)
          (setAll
            ((rows.set ((0 : Nat) + i.toNat)
                  (AV.int IntKind.i64 ((s_hd rs).tmod (7 : Int)) ::
                    List.drop ((0 : Nat) + (1 : Nat)) (rows.getD ((0 : Nat) + i.toNat) []))).getD
              ((0 : Nat) + i.toNat) [])
            (1 : Nat) [AV.int IntKind.i64 (s_hd (s_drop (1 : Nat) rs))])).set
      ((0 : Nat) + i.toNat)
      (setAll
        (((rows.set ((0 : Nat) + i.toNat)
                  (AV.int IntKind.i64 ((s_hd rs).tmod (7 : Int)) ::
                    List.drop ((0 : Nat) + (1 : Nat)) (rows.getD ((0 : Nat) + i.toNat) []))).set
              ((0 : Nat) + i.toNat)
              (setAll
                ((rows.set ((0 : Nat) + i.toNat)
                      (AV.int IntKind.i64 ((s_hd rs).tmod (7 : Int)) ::
                        List.drop ((0 : Nat) + (1 : Nat)) (rows.getD ((0 : Nat) + i.toNat) []))).getD
                  ((0 : Nat) + i.toNat) [])
                (1 : Nat) [AV.int IntKind.i64 (s_hd (s_drop (1 : Nat) rs))])).getD
          ((0 : Nat) + i.toNat) [])
        (2 : Nat)
        [AV.str
            (s_text (s_drop (1 : Nat) (s_drop (1 : Nat) rs))
              ((s_hd (s_drop (1 : Nat) (s_drop (1 : Nat) rs))).tmod (4 : Int)).toNat (1 : Nat) (ByteArray.mk #[]))]))]))))))))))
 (Q (Ex.exit (1 : Nat)) ([AV.ptr (0 : Nat) (0 : Nat), AV.ptr (1 : Nat) (0 : Nat), AV.ptr (2 : Nat) (0 : Nat)]) ([AObj.box [AV.row nl [K.int IntKind.u8] rs],
  AObj.box
    [AV.int IntKind.i64 z1, AV.int IntKind.i64 z2, AV.int IntKind.i64 z3, AV.int IntKind.i64 z4, AV.nils, AV.nils],
  AObj.box
    [AV.int IntKind.i64 k, AV.int IntKind.i64 a, AV.int IntKind.i64 f, AV.int IntKind.i64 t,
      AV.sl (3 : Nat) (0 : Nat) n, AV.nils],
  AObj.arr (2 : Nat) (47 : Nat) [K.int IntKind.i64, K.int IntKind.i64, K.str] rows]))) := by kernel_rfl
end Go.Proofs.YthihinlamlamhaaE
/- Acts, loci, calls: the specs hold. -/
namespace Go.Proofs.YthihinlamlamhaaE
open Go
set_option linter.unusedVariables false
set_option linter.unusedSimpArgs false
set_option maxRecDepth 100000

theorem dd (a b : Nat) (rs : List (List AV)) : s_drop a (s_drop b rs) = s_drop (b + a) rs := by unfold s_drop; rw [List.drop_drop]
theorem hd0 (rs : List (List AV)) : s_hd rs = s_at rs 0 := by unfold s_at; rw [List.drop_zero]
theorem at_drop (k i : Nat) (rs : List (List AV)) : s_at (s_drop k rs) i = s_at rs (k + i) := by unfold s_at s_drop; rw [List.drop_drop]
theorem text_drop' (rs : List (List AV)) (a : Nat) : ∀ (k p : Nat) (s : ByteArray), s_text (s_drop a rs) k p s = s_text rs k (a + p) s
  | 0, _, _ => rfl
  | k + 1, p, s => by simp only [s_text]; rw [text_drop' rs a k, at_drop, Nat.add_assoc]
theorem at_le {rs : List (List AV)} (h : s_bytes rs) (i : Nat) : 0 ≤ s_at rs i ∧ s_at rs i ≤ 255 := hd_le (bytes_drop i h)
theorem at_mod {rs : List (List AV)} (h : s_bytes rs) (i : Nat) {n : Int} (hn : 0 < n) : 0 ≤ (s_at rs i).tmod n ∧ (s_at rs i).tmod n < n := ⟨Int.tmod_nonneg n (at_le h i).1, Int.tmod_lt_of_pos _ hn⟩
theorem ok26 : OkS Try.prog H0 26 sCallS := by
  intro args h Q hq
  unfold sCallS at hq
  split at hq
  · rename_i n pi e g fi nl ps nl2 rs
    obtain ⟨⟨h0, h1⟩, hQ⟩ := hyp_iff.1 hq
    refine in_ok (S := S4) (U := 6) (k := 6) okS4 (to (nf26 ..) ?_)
    simp only [dd, hd0, at_drop, Nat.reduceAdd]
    rw [wr (x := 1 + (ps.length : Int)) (by omega) (by omega), chk_iff, chk_iff, Int.add_comm 1]
    exact ⟨h0, by omega, hQ⟩
  · exact hq.elim
theorem get_set {rows : List (List AV)} {i : Nat} (x : List AV) (hi : i < rows.length) : (rows.set i x).getD i [] = x := by
  rw [List.getD_eq_getElem?_getD, List.getElem?_set_self hi]; rfl
theorem okLFActs : OkLp Try.prog H0 25 1012 lFActs := by
  refine okLp_of (U := 6) (k := 6) okS4 lFActs (fun vals _ => match vals with | [_, _, _, .int _ m, .int _ i] => (m - i).toNat | _ => 0) fun vals h Q hl => ?_
  unfold lFActs at hl
  split at hl
  · rename_i m i nl rs z1 z2 z3 z4 k a f t n rows
    obtain ⟨⟨hm, h0, h1, h2, h3, h4, h5⟩, hq⟩ := hyp_iff.1 hl
    subst hm
    refine to (nf25a ..) (br_intro (fun hc => ?_) fun hc => ?_)
    · have hc := of_decide_eq_true hc
      have hi : i.toNat < rows.length := by omega
      simp only [dd, hd0, at_drop, Nat.reduceAdd, Nat.zero_add, List.length_set]
      obtain ⟨x, y, z, hr⟩ : ∃ x y z, rows.getD i.toNat [] = [x, y, z] := by
        have := h4 (rows[i.toNat]) (List.getElem_mem hi)
        have e : rows.getD i.toNat [] = rows[i.toNat] := by rw [List.getD_eq_getElem?_getD, List.getElem?_eq_getElem hi]; rfl
        rw [e]
        match rows[i.toNat], this with
        | [x, y, z], _ => exact ⟨x, y, z, rfl⟩
      have hi2 : ∀ x : List AV, i.toNat < (rows.set i.toNat x).length := fun x => by rw [List.length_set]; exact hi
      simp only [hr, get_set _ hi, get_set _ (hi2 _), List.set_set]
      rw [chk_iff, chk_iff, chk_iff, chk_iff, chk_iff, chk_iff]
      have hi3 : (0 : Int) ≤ i ∧ i < n := by omega
      refine ⟨hi3, hi, hi3, hi, .mk (bytes_drop 2 h5), hi3, hi, ?_⟩
      rw [wr (x := i + 1) (by omega) (by omega)]
      refine ⟨by show ((n : Int) - (i + 1)).toNat < ((n : Int) - i).toNat; omega, ?_⟩
      have hact : (setAll (setAll (AV.int IntKind.i64 ((s_at rs 0).tmod 7) :: List.drop 1 [x, y, z]) 1 [AV.int IntKind.i64 (s_at rs 1)]) 2 [AV.str (s_text (s_drop 2 rs) ((s_at rs 2).tmod 4).toNat 1 (ByteArray.mk #[]))]) = s_act rs := by
        rw [text_drop']; rfl
      rw [hact]
      have hn : 2 + (1 + ((s_at rs 2).tmod 4).toNat) = s_actN rs := by unfold s_actN; omega
      rw [hn]
      refine ⟨.mk ⟨rfl, by omega, by omega, h2, by rw [List.length_set]; exact h3, fun r hr => ?_, bytes_drop _ h5⟩, fun rows' hr => ?_⟩
      · rcases List.mem_or_eq_of_mem_set hr with h | h
        · exact h4 r h
        · rw [h]; rfl
      · have e : n - i.toNat = (n - (i + 1).toNat) + 1 := by omega
        rw [e] at hq
        simp only [s_acts, s_actsN] at hq
        rw [dd]
        refine hq rows' ?_
        rw [hr, show (i + 1).toNat = i.toNat + 1 by omega, set_take hi]
        simp
    · have hc := of_decide_eq_false hc
      have e : n - i.toNat = 0 := by omega
      rw [e] at hq
      exact hq rows (by rw [List.take_of_length_le (by omega)]; simp [s_acts])
  · exact hl.elim
theorem okS4L : OkSp Try.prog H0 S4L := ⟨okS4.fn, okLFActs, trivial⟩
theorem acts_len (k : Nat) : ∀ rs : List (List AV), (s_acts rs k).length = k := by
  induction k with
  | zero => intro rs; rfl
  | succ k ih => intro rs; simp [s_acts, ih]
theorem sg_lit (rs : List (List AV)) (k : Nat) (t : Int) : irow .i64 (s_sg (s_drop k rs) t 4) = [[.int .i64 (IntKind.i64.wrap (IntKind.i64.wrap (s_at rs (k + 0) - 128) * t))], [.int .i64 (IntKind.i64.wrap (IntKind.i64.wrap (s_at rs (k + 1) - 128) * t))],
    [.int .i64 (IntKind.i64.wrap (IntKind.i64.wrap (s_at rs (k + 2) - 128) * t))], [.int .i64 (IntKind.i64.wrap (IntKind.i64.wrap (s_at rs (k + 3) - 128) * t))]] := by
  have : ∀ i, s_at (s_drop k rs) i = s_at rs (k + i) := fun i => at_drop k i rs
  simp only [← this]
  rfl
theorem ok25 : OkS Try.prog H0 25 sFaultS := by
  intro args h Q hq
  unfold sFaultS at hq
  split at hq
  · rename_i n pi e g fi nl ps nl2 rs
    obtain ⟨⟨h0, h1, h2⟩, hQ⟩ := hyp_iff.1 hq
    refine in_ok (S := S4L) (U := 6) (k := 6) okS4L (to (nf25 ..) ?_)
    simp only [dd, hd0, at_drop, Nat.reduceAdd]
    have r0 := at_mod h2 0 (show (0 : Int) < 3 by omega)
    have r2 := at_mod h2 2 (show (0 : Int) < 60 by omega)
    have r3 := at_mod h2 3 (show (0 : Int) < 60 by omega)
    have r4 := at_mod h2 4 (show (0 : Int) < 8 by omega)
    rw [wr (x := 2 * n) (by omega) (by omega), wr (x := (s_at rs 2).tmod 60 + (s_at rs 3).tmod 60) (by omega) (by omega)]
    have hrep : s_len3 (List.replicate ((s_at rs 4).tmod 8).toNat [AV.int IntKind.i64 0, AV.int IntKind.i64 0, AV.str (ByteArray.mk #[])]) := fun r hr => by rw [List.eq_of_mem_replicate hr]; rfl
    have hb5 := bytes_drop 5 h2
    rw [sg_lit] at hQ
    unfold s_fN s_fA s_fat at hQ
    have hlen := acts_len ((s_at rs 4).tmod 8).toNat (s_drop 5 rs)
    refine br_intro (fun c => ?_) fun c => br_intro (fun c2 => ?_) fun c2 => ?_
    all_goals simp only [beq_iff_eq, beq_eq_false_iff_ne] at *
    · rw [if_pos c] at hQ
      rw [chk_iff, chk_iff, chk_iff]
      refine ⟨by omega, by omega, by omega, .mk ⟨trivial, by omega, by omega, by omega, by simp, hrep, hb5⟩, fun rows' hr => ⟨.mk (by omega), ?_⟩⟩
      rw [List.nil_append, Nat.sub_zero] at hr
      subst hr
      rw [chk_iff, Nat.sub_zero, List.drop_zero, List.take_of_length_le (by omega)]
      exact ⟨by omega, hQ⟩
    · rw [if_neg c, if_pos c2] at hQ
      rw [chk_iff, chk_iff, chk_iff]
      refine ⟨by omega, by omega, by omega, .mk ⟨trivial, by omega, by omega, by omega, by simp, hrep, hb5⟩, fun rows' hr => ⟨.mk (by omega), ?_⟩⟩
      rw [List.nil_append, Nat.sub_zero] at hr
      subst hr
      rw [chk_iff, Nat.sub_zero, List.drop_zero, List.take_of_length_le (by omega)]
      exact ⟨by omega, hQ⟩
    · rw [if_neg c, if_neg c2] at hQ
      rw [chk_iff, chk_iff]
      refine ⟨by omega, by omega, .mk ⟨trivial, by omega, by omega, by omega, by simp, hrep, hb5⟩, fun rows' hr => ⟨.mk (by omega), ?_⟩⟩
      rw [List.nil_append, Nat.sub_zero] at hr
      subst hr
      rw [chk_iff, Nat.sub_zero, List.drop_zero, List.take_of_length_le (by omega)]
      exact ⟨by omega, hQ⟩
  · exact hq.elim
theorem okS5 : OkSp Try.prog H0 S5 := ⟨⟨ok25, ok26, okS4.fn⟩, trivial⟩
end Go.Proofs.YthihinlamlamhaaE
/- Specs of configurations, and of scripts. -/
namespace Go.Proofs.YthihinlamlamhaaE
open Go
set_option linter.unusedVariables false

/-- A configuration that may be. -/
def s_made (n pi e g fi : Int) (ps : List Int) : Prop :=
  6 ≤ n ∧ n ≤ 12 ∧ 0 ≤ e ∧ e ≤ 20 ∧ 0 ≤ g ∧ g ≤ 20 ∧ 0 ≤ fi ∧ fi ≤ 65535 ∧ 4 * (e + g + 1) ≤ pi ∧ pi ≤ 4 * (e + g + 1) + 99 ∧ ps.length ≤ 3 ∧ ∀ p ∈ ps, -1 ≤ p ∧ p < n
def sMake : SW := fun args h Q => match args, h with
  | [.agg [.int .i64 n, .int .i64 pi, .int .i64 e, .int .i64 g, .int .i64 fi, .row nl [.int .i64] rs]], [] =>
    ∀ (n' pi' e' g' fi' : Int) (nl' : Bool) (ps : List Int), s_made n' pi' e' g' fi' ps → Q (cf n' pi' e' g' fi' nl' (irow .i64 ps), [])
  | _, _ => False
def s_confOk (n pi e g fi : Int) (ps : List Int) : Bool :=
  decide (6 ≤ n) && decide (n ≤ 12) && decide (0 ≤ e) && decide (e ≤ 100) && decide (0 ≤ g) && decide (g ≤ 100) && decide (0 ≤ fi) && decide (fi ≤ 65535) && decide (4 * (e + g + 1) ≤ pi) && decide (pi ≤ 10000) && decide (ps.length ≤ 3) && ps.all fun p => decide (-1 ≤ p) && decide (p < n)
def ints (rs : List (List AV)) : List Int := rs.map fun r => AV.toI (r.getD 0 .gone)
def sCheck : SW := fun args h Q => match args, h with
  | [.agg [.int .i64 n, .int .i64 pi, .int .i64 e, .int .i64 g, .int .i64 fi, .row nl [.int .i64] rs]], [] => Hyp (s_confOk n pi e g fi (ints rs) = true) ∧ (Q (.int .i64 0, []))
  | [.agg [.int .i64 n, .int .i64 pi, .int .i64 e, .int .i64 g, .int .i64 fi, .nils]], [] => Hyp (s_confOk n pi e g fi [] = true) ∧ (Q (.int .i64 0, []))
  | _, _ => False
/-- Loops. -/
def lMake : LW := fun vals h Q => match vals, h with
  | [.ptr 0 0, .ptr 1 0, .ptr 2 0, .int .i64 i], [.box [.int .i64 n', .int .i64 pi', .int .i64 e', .int .i64 g', .int .i64 fi', .row nl [.int .i64] rs], .box [.int .i64 z1, .int .i64 z2, .int .i64 z3, .int .i64 z4, .int .i64 z5, .nils], .box [.int .i64 n, .int .i64 pi, .int .i64 e, .int .i64 g, .int .i64 fi, .nils]] =>
    Hyp (i = 0 ∧ 6 ≤ n ∧ n ≤ 12) ∧
      (Q (.exit 0) [.ptr 0 0, .ptr 1 0] [.box [.int .i64 z1, .int .i64 z2, .int .i64 z3, .int .i64 z4, .int .i64 z5, .nils], .box [.int .i64 n, .int .i64 pi, .int .i64 e, .int .i64 g, .int .i64 fi, .nils]] ∧
        ∀ (ps : List Int), ps.length ≤ 3 → (∀ p ∈ ps, -1 ≤ p ∧ p < n) → Q (.exit 0) [.ptr 0 0, .ptr 1 0] [.box [.int .i64 z1, .int .i64 z2, .int .i64 z3, .int .i64 z4, .int .i64 z5, .nils], .box [.int .i64 n, .int .i64 pi, .int .i64 e, .int .i64 g, .int .i64 fi, .sl 2 0 ps.length], .arr 2 3 [.int .i64] (irow .i64 ps)])
  | [.ptr 0 0, .ptr 1 0, .ptr 2 0, .int .i64 i], [.box [.int .i64 n', .int .i64 pi', .int .i64 e', .int .i64 g', .int .i64 fi', .row nl [.int .i64] rs], .box [.int .i64 z1, .int .i64 z2, .int .i64 z3, .int .i64 z4, .int .i64 z5, .nils], .box [.int .i64 n, .int .i64 pi, .int .i64 e, .int .i64 g, .int .i64 fi, .sl 3 0 m], .arr 2 3 [.int .i64] rows] =>
    (i = m ∧ m ≤ 3 ∧ 6 ≤ n ∧ n ≤ 12 ∧ ∃ qs : List Int, rows = irow .i64 qs ∧ qs.length = m ∧ ∀ p ∈ qs, -1 ≤ p ∧ p < n) ∧
        ∀ (ps : List Int), ps.length ≤ 3 → (∀ p ∈ ps, -1 ≤ p ∧ p < n) → Q (.exit 0) [.ptr 0 0, .ptr 1 0] [.box [.int .i64 z1, .int .i64 z2, .int .i64 z3, .int .i64 z4, .int .i64 z5, .nils], .box [.int .i64 n, .int .i64 pi, .int .i64 e, .int .i64 g, .int .i64 fi, .sl 2 0 ps.length], .arr 2 3 [.int .i64] (irow .i64 ps)]
  | _, _ => False
def SCL : Sp := ⟨S5.fn, [(10, 6, lMake)]⟩
end Go.Proofs.YthihinlamlamhaaE
/- What path mode says of functions, printed by a program of this session; the kernel holds each. -/
namespace Go.Proofs.YthihinlamlamhaaE
open Go
set_option maxRecDepth 100000
set_option linter.unusedVariables false
theorem nf10 (n pi e g fi : Int) (nl : Bool) (rs : List (List AV)) (Q : AV × List AObj → Prop) : inlW Try.prog H0 SCL 6 (InO Try.prog H0 SCL 6 6) 10 [cf n pi e g fi nl rs] [] Q = (
br (s_rem fi (3 : Int) == (0 : Int))
 (((Hyp ((0 : Int) = (0 : Int) ∧
  (6 : Int) ≤ IntKind.i64.wrap ((6 : Int) + s_rem n (7 : Int)) ∧
    IntKind.i64.wrap ((6 : Int) + s_rem n (7 : Int)) ≤ (12 : Int))) ∧
 (((Q ((AV.agg
    [AV.int IntKind.i64 (IntKind.i64.wrap ((6 : Int) + s_rem n (7 : Int))),
      AV.int IntKind.i64
        (IntKind.i64.wrap
          (IntKind.i64.wrap
              ((4 : Int) * IntKind.i64.wrap (IntKind.i64.wrap (s_rem e (21 : Int) + s_rem g (21 : Int)) + (1 : Int))) +
            s_rem pi (100 : Int))),
      AV.int IntKind.i64 (s_rem e (21 : Int)), AV.int IntKind.i64 (s_rem g (21 : Int)),
      AV.int IntKind.i64 (IntKind.i64.wrap ((65535 : Int) - s_rem fi (40 : Int))), AV.row true [K.int IntKind.i64] []],
  []))) ∧
 ((∀ (ps103 : List Int),
 ((ps103.length ≤ (3 : Nat)) →
 ((∀ (p : Int), p ∈ ps103 → (-1 : Int) ≤ p ∧ p < IntKind.i64.wrap ((6 : Int) + s_rem n (7 : Int))) →
 chk ((0 : Nat) + ps103.length ≤ (List.map (fun n => [AV.int IntKind.i64 n]) ps103).length) (Q ((AV.agg
    [AV.int IntKind.i64 (IntKind.i64.wrap ((6 : Int) + s_rem n (7 : Int))),
      AV.int IntKind.i64
        (IntKind.i64.wrap
          (IntKind.i64.wrap
              ((4 : Int) * IntKind.i64.wrap (IntKind.i64.wrap (s_rem e (21 : Int) + s_rem g (21 : Int)) + (1 : Int))) +
            s_rem pi (100 : Int))),
      AV.int IntKind.i64 (s_rem e (21 : Int)), AV.int IntKind.i64 (s_rem g (21 : Int)),
      AV.int IntKind.i64 (IntKind.i64.wrap ((65535 : Int) - s_rem fi (40 : Int))),
      AV.row false [K.int IntKind.i64]
        (List.take ps103.length (List.drop (0 : Nat) (List.map (fun n => [AV.int IntKind.i64 n]) ps103)))],
  [])))))))))))
 (((Hyp ((0 : Int) = (0 : Int) ∧
  (6 : Int) ≤ IntKind.i64.wrap ((6 : Int) + s_rem n (7 : Int)) ∧
    IntKind.i64.wrap ((6 : Int) + s_rem n (7 : Int)) ≤ (12 : Int))) ∧
 (((Q ((AV.agg
    [AV.int IntKind.i64 (IntKind.i64.wrap ((6 : Int) + s_rem n (7 : Int))),
      AV.int IntKind.i64
        (IntKind.i64.wrap
          (IntKind.i64.wrap
              ((4 : Int) * IntKind.i64.wrap (IntKind.i64.wrap (s_rem e (21 : Int) + s_rem g (21 : Int)) + (1 : Int))) +
            s_rem pi (100 : Int))),
      AV.int IntKind.i64 (s_rem e (21 : Int)), AV.int IntKind.i64 (s_rem g (21 : Int)),
      AV.int IntKind.i64 (s_rem fi (65536 : Int)), AV.row true [K.int IntKind.i64] []],
  []))) ∧
 ((∀ (ps103 : List Int),
 ((ps103.length ≤ (3 : Nat)) →
 ((∀ (p : Int), p ∈ ps103 → (-1 : Int) ≤ p ∧ p < IntKind.i64.wrap ((6 : Int) + s_rem n (7 : Int))) →
 chk ((0 : Nat) + ps103.length ≤ (List.map (fun n => [AV.int IntKind.i64 n]) ps103).length) (Q ((AV.agg
    [AV.int IntKind.i64 (IntKind.i64.wrap ((6 : Int) + s_rem n (7 : Int))),
      AV.int IntKind.i64
        (IntKind.i64.wrap
          (IntKind.i64.wrap
              ((4 : Int) * IntKind.i64.wrap (IntKind.i64.wrap (s_rem e (21 : Int) + s_rem g (21 : Int)) + (1 : Int))) +
            s_rem pi (100 : Int))),
      AV.int IntKind.i64 (s_rem e (21 : Int)), AV.int IntKind.i64 (s_rem g (21 : Int)),
      AV.int IntKind.i64 (s_rem fi (65536 : Int)),
      AV.row false [K.int IntKind.i64]
        (List.take ps103.length (List.drop (0 : Nat) (List.map (fun n => [AV.int IntKind.i64 n]) ps103)))],
  [])))))))))))) := by kernel_rfl
theorem nf10a (i n pi e g fi n' pi' e' g' fi' : Int) (nl : Bool) (rs : List (List AV)) (z1 z2 z3 z4 z5 : Int) (Q : Ex → List AV → List AObj → Prop) : lpBody Try.prog H0 S5 6 6 10 6 [.ptr 0 0, .ptr 1 0, .ptr 2 0, .int .i64 i] [.box [.int .i64 n', .int .i64 pi', .int .i64 e', .int .i64 g', .int .i64 fi', .row nl [.int .i64] rs], .box [.int .i64 z1, .int .i64 z2, .int .i64 z3, .int .i64 z4, .int .i64 z5, .nils], .box [.int .i64 n, .int .i64 pi, .int .i64 e, .int .i64 g, .int .i64 fi, .nils]] Q = (
br (decide (i < (↑rs.length : Int)))
 (br (decide (i < (3 : Int)))
  (chk ((0 : Int) ≤ i ∧ i < (↑rs.length : Int)) (chk ((0 : Int) < IntKind.i64.wrap (n + (1 : Int)) ∧ IntKind.i64.wrap (n + (1 : Int)) < (9223372036854775808 : Int)) (Q (Ex.nrm) ([AV.ptr (0 : Nat) (0 : Nat), AV.ptr (1 : Nat) (0 : Nat), AV.ptr (2 : Nat) (0 : Nat),
  AV.int IntKind.i64 (IntKind.i64.wrap (i + (1 : Int)))]) ([AObj.box
    [AV.int IntKind.i64 n', AV.int IntKind.i64 pi', AV.int IntKind.i64 e', AV.int IntKind.i64 g',
      AV.int IntKind.i64 fi', AV.row nl [K.int IntKind.i64] rs],
  AObj.box
    [AV.int IntKind.i64 z1, AV.int IntKind.i64 z2, AV.int IntKind.i64 z3, AV.int IntKind.i64 z4, AV.int IntKind.i64 z5,
      AV.nils],
  AObj.box
    [AV.int IntKind.i64 n, AV.int IntKind.i64 pi, AV.int IntKind.i64 e, AV.int IntKind.i64 g, AV.int IntKind.i64 fi,
      AV.sl (3 : Nat) (0 : Nat) (1 : Nat)],
  AObj.arr (2 : Nat) (3 : Nat) [K.int IntKind.i64]
    [[AV.int IntKind.i64
          (IntKind.i64.wrap
            (s_rem ((rs.getD i.toNat []).getD (0 : Nat) AV.gone).toI (IntKind.i64.wrap (n + (1 : Int))) - (1 : Int)))]]]))))
  (Q (Ex.exit (0 : Nat)) ([AV.ptr (0 : Nat) (0 : Nat), AV.ptr (1 : Nat) (0 : Nat)]) ([AObj.box
    [AV.int IntKind.i64 z1, AV.int IntKind.i64 z2, AV.int IntKind.i64 z3, AV.int IntKind.i64 z4, AV.int IntKind.i64 z5,
      AV.nils],
  AObj.box
    [AV.int IntKind.i64 n, AV.int IntKind.i64 pi, AV.int IntKind.i64 e, AV.int IntKind.i64 g, AV.int IntKind.i64 fi,
      AV.nils]])))
 (Q (Ex.exit (0 : Nat)) ([AV.ptr (0 : Nat) (0 : Nat), AV.ptr (1 : Nat) (0 : Nat)]) ([AObj.box
    [AV.int IntKind.i64 z1, AV.int IntKind.i64 z2, AV.int IntKind.i64 z3, AV.int IntKind.i64 z4, AV.int IntKind.i64 z5,
      AV.nils],
  AObj.box
    [AV.int IntKind.i64 n, AV.int IntKind.i64 pi, AV.int IntKind.i64 e, AV.int IntKind.i64 g, AV.int IntKind.i64 fi,
      AV.nils]]))) := by kernel_rfl
theorem nf10b (z1 z2 z3 z4 z5 i n pi e g fi n' pi' e' g' fi' : Int) (nl : Bool) (rs rows : List (List AV)) (m : Nat) (Q : Ex → List AV → List AObj → Prop) : lpBody Try.prog H0 S5 6 6 10 6 [.ptr 0 0, .ptr 1 0, .ptr 2 0, .int .i64 i] [.box [.int .i64 n', .int .i64 pi', .int .i64 e', .int .i64 g', .int .i64 fi', .row nl [.int .i64] rs], .box [.int .i64 z1, .int .i64 z2, .int .i64 z3, .int .i64 z4, .int .i64 z5, .nils], .box [.int .i64 n, .int .i64 pi, .int .i64 e, .int .i64 g, .int .i64 fi, .sl 3 0 m], .arr 2 3 [.int .i64] rows] Q = (
br (decide (i < (↑rs.length : Int)))
 (br (decide (i < (3 : Int)))
  (chk ((0 : Int) ≤ i ∧ i < (↑rs.length : Int)) (chk ((0 : Int) < IntKind.i64.wrap (n + (1 : Int)) ∧ IntKind.i64.wrap (n + (1 : Int)) < (9223372036854775808 : Int)) (chk (m = rows.length) (chk ((rows.length + (1 : Nat)) * (8 : Nat) ≤ (140737488355328 : Nat)) (chk (rows.length + (1 : Nat) ≤ (9223372036854775807 : Nat)) (Q (Ex.nrm) ([AV.ptr (0 : Nat) (0 : Nat), AV.ptr (1 : Nat) (0 : Nat), AV.ptr (2 : Nat) (0 : Nat),
  AV.int IntKind.i64 (IntKind.i64.wrap (i + (1 : Int)))]) ([AObj.box
    [AV.int IntKind.i64 n', AV.int IntKind.i64 pi', AV.int IntKind.i64 e', AV.int IntKind.i64 g',
      AV.int IntKind.i64 fi', AV.row nl [K.int IntKind.i64] rs],
  AObj.box
    [AV.int IntKind.i64 z1, AV.int IntKind.i64 z2, AV.int IntKind.i64 z3, AV.int IntKind.i64 z4, AV.int IntKind.i64 z5,
      AV.nils],
  AObj.box
    [AV.int IntKind.i64 n, AV.int IntKind.i64 pi, AV.int IntKind.i64 e, AV.int IntKind.i64 g, AV.int IntKind.i64 fi,
      AV.sl (3 : Nat) (0 : Nat) (rows.length + (1 : Nat))],
  AObj.arr (2 : Nat) (3 : Nat) [K.int IntKind.i64]
    (rows ++
      [[AV.int IntKind.i64
            (IntKind.i64.wrap
              (s_rem ((rs.getD i.toNat []).getD (0 : Nat) AV.gone).toI (IntKind.i64.wrap (n + (1 : Int))) -
                (1 : Int)))]])])))))))
  (Q (Ex.exit (0 : Nat)) ([AV.ptr (0 : Nat) (0 : Nat), AV.ptr (1 : Nat) (0 : Nat)]) ([AObj.box
    [AV.int IntKind.i64 z1, AV.int IntKind.i64 z2, AV.int IntKind.i64 z3, AV.int IntKind.i64 z4, AV.int IntKind.i64 z5,
      AV.nils],
  AObj.box
    [AV.int IntKind.i64 n, AV.int IntKind.i64 pi, AV.int IntKind.i64 e, AV.int IntKind.i64 g, AV.int IntKind.i64 fi,
      AV.sl (2 : Nat) (0 : Nat) m],
  AObj.arr (2 : Nat) (3 : Nat) [K.int IntKind.i64] rows])))
 (Q (Ex.exit (0 : Nat)) ([AV.ptr (0 : Nat) (0 : Nat), AV.ptr (1 : Nat) (0 : Nat)]) ([AObj.box
    [AV.int IntKind.i64 z1, AV.int IntKind.i64 z2, AV.int IntKind.i64 z3, AV.int IntKind.i64 z4, AV.int IntKind.i64 z5,
      AV.nils],
  AObj.box
    [AV.int IntKind.i64 n, AV.int IntKind.i64 pi, AV.int IntKind.i64 e, AV.int IntKind.i64 g, AV.int IntKind.i64 fi,
      AV.sl (2 : Nat) (0 : Nat) m],
  AObj.arr (2 : Nat) (3 : Nat) [K.int IntKind.i64] rows]))) := by kernel_rfl
theorem nf19n (n pi e g fi : Int) (Q : AV × List AObj → Prop) : inlW Try.prog H0 S5 6 (InO Try.prog H0 S5 6 6) 19 [.agg [.int .i64 n, .int .i64 pi, .int .i64 e, .int .i64 g, .int .i64 fi, .nils]] [] Q = (
br (decide (n ≥ (6 : Int)))
 (br (!decide (n ≤ (12 : Int)))
  (Q ((AV.int IntKind.i64 (1 : Int), [])))
  (br (decide (e ≥ (0 : Int)))
   (br (!decide (e ≤ (100 : Int)))
    (Q ((AV.int IntKind.i64 (1 : Int), [])))
    (br (decide (g ≥ (0 : Int)))
     (br (!decide (g ≤ (100 : Int)))
      (Q ((AV.int IntKind.i64 (1 : Int), [])))
      (br (decide (fi ≥ (0 : Int)))
       (br (!decide (fi ≤ (65535 : Int)))
        (Q ((AV.int IntKind.i64 (1 : Int), [])))
        (br (decide (pi ≥ IntKind.i64.wrap ((4 : Int) * IntKind.i64.wrap (IntKind.i64.wrap (e + g) + (1 : Int)))))
         (br (!decide (pi ≤ (10000 : Int)))
          (Q ((AV.int IntKind.i64 (1 : Int), [])))
          (Q ((AV.int IntKind.i64 (0 : Int), []))))
         (Q ((AV.int IntKind.i64 (1 : Int), [])))))
       (Q ((AV.int IntKind.i64 (1 : Int), [])))))
     (Q ((AV.int IntKind.i64 (1 : Int), [])))))
   (Q ((AV.int IntKind.i64 (1 : Int), [])))))
 (Q ((AV.int IntKind.i64 (1 : Int), [])))) := by kernel_rfl
theorem nf19z (n pi e g fi : Int) (nl : Bool) (Q : AV × List AObj → Prop) : inlW Try.prog H0 S5 6 (InO Try.prog H0 S5 6 6) 19 [cf n pi e g fi nl []] [] Q = (
br (decide (n ≥ (6 : Int)))
 (br (!decide (n ≤ (12 : Int)))
  (Q ((AV.int IntKind.i64 (1 : Int), [])))
  (br (decide (e ≥ (0 : Int)))
   (br (!decide (e ≤ (100 : Int)))
    (Q ((AV.int IntKind.i64 (1 : Int), [])))
    (br (decide (g ≥ (0 : Int)))
     (br (!decide (g ≤ (100 : Int)))
      (Q ((AV.int IntKind.i64 (1 : Int), [])))
      (br (decide (fi ≥ (0 : Int)))
       (br (!decide (fi ≤ (65535 : Int)))
        (Q ((AV.int IntKind.i64 (1 : Int), [])))
        (br (decide (pi ≥ IntKind.i64.wrap ((4 : Int) * IntKind.i64.wrap (IntKind.i64.wrap (e + g) + (1 : Int)))))
         (br (!decide (pi ≤ (10000 : Int)))
          (Q ((AV.int IntKind.i64 (1 : Int), [])))
          (Q ((AV.int IntKind.i64 (0 : Int), []))))
         (Q ((AV.int IntKind.i64 (1 : Int), [])))))
       (Q ((AV.int IntKind.i64 (1 : Int), [])))))
     (Q ((AV.int IntKind.i64 (1 : Int), [])))))
   (Q ((AV.int IntKind.i64 (1 : Int), [])))))
 (Q ((AV.int IntKind.i64 (1 : Int), [])))) := by kernel_rfl
theorem nf19a (n pi e g fi : Int) (nl : Bool) (a : List AV) (Q : AV × List AObj → Prop) : inlW Try.prog H0 S5 6 (InO Try.prog H0 S5 6 6) 19 [cf n pi e g fi nl [a]] [] Q = (
br (decide (n ≥ (6 : Int)))
 (br (!decide (n ≤ (12 : Int)))
  (Q ((AV.int IntKind.i64 (1 : Int), [])))
  (br (decide (e ≥ (0 : Int)))
   (br (!decide (e ≤ (100 : Int)))
    (Q ((AV.int IntKind.i64 (1 : Int), [])))
    (br (decide (g ≥ (0 : Int)))
     (br (!decide (g ≤ (100 : Int)))
      (Q ((AV.int IntKind.i64 (1 : Int), [])))
      (br (decide (fi ≥ (0 : Int)))
       (br (!decide (fi ≤ (65535 : Int)))
        (Q ((AV.int IntKind.i64 (1 : Int), [])))
        (br (decide (pi ≥ IntKind.i64.wrap ((4 : Int) * IntKind.i64.wrap (IntKind.i64.wrap (e + g) + (1 : Int)))))
         (br (!decide (pi ≤ (10000 : Int)))
          (Q ((AV.int IntKind.i64 (1 : Int), [])))
          (br (decide ((([a].getD (0 : Nat) []).getD (0 : Nat) AV.gone).toI ≥ (-1 : Int)))
           (br (!decide ((([a].getD (0 : Nat) []).getD (0 : Nat) AV.gone).toI ≤ IntKind.i64.wrap (n - (1 : Int))))
            (Q ((AV.int IntKind.i64 (1 : Int), [])))
            (Q ((AV.int IntKind.i64 (0 : Int), []))))
           (Q ((AV.int IntKind.i64 (1 : Int), [])))))
         (Q ((AV.int IntKind.i64 (1 : Int), [])))))
       (Q ((AV.int IntKind.i64 (1 : Int), [])))))
     (Q ((AV.int IntKind.i64 (1 : Int), [])))))
   (Q ((AV.int IntKind.i64 (1 : Int), [])))))
 (Q ((AV.int IntKind.i64 (1 : Int), [])))) := by kernel_rfl
theorem nf19b (n pi e g fi : Int) (nl : Bool) (a b : List AV) (Q : AV × List AObj → Prop) : inlW Try.prog H0 S5 6 (InO Try.prog H0 S5 6 6) 19 [cf n pi e g fi nl [a, b]] [] Q = (
br (decide (n ≥ (6 : Int)))
 (br (!decide (n ≤ (12 : Int)))
  (Q ((AV.int IntKind.i64 (1 : Int), [])))
  (br (decide (e ≥ (0 : Int)))
   (br (!decide (e ≤ (100 : Int)))
    (Q ((AV.int IntKind.i64 (1 : Int), [])))
    (br (decide (g ≥ (0 : Int)))
     (br (!decide (g ≤ (100 : Int)))
      (Q ((AV.int IntKind.i64 (1 : Int), [])))
      (br (decide (fi ≥ (0 : Int)))
       (br (!decide (fi ≤ (65535 : Int)))
        (Q ((AV.int IntKind.i64 (1 : Int), [])))
        (br (decide (pi ≥ IntKind.i64.wrap ((4 : Int) * IntKind.i64.wrap (IntKind.i64.wrap (e + g) + (1 : Int)))))
         (br (!decide (pi ≤ (10000 : Int)))
          (Q ((AV.int IntKind.i64 (1 : Int), [])))
          (br (decide ((([a, b].getD (0 : Nat) []).getD (0 : Nat) AV.gone).toI ≥ (-1 : Int)))
           (br (!decide ((([a, b].getD (0 : Nat) []).getD (0 : Nat) AV.gone).toI ≤ IntKind.i64.wrap (n - (1 : Int))))
            (Q ((AV.int IntKind.i64 (1 : Int), [])))
            (br (decide ((([a, b].getD (1 : Nat) []).getD (0 : Nat) AV.gone).toI ≥ (-1 : Int)))
             (br (!decide ((([a, b].getD (1 : Nat) []).getD (0 : Nat) AV.gone).toI ≤ IntKind.i64.wrap (n - (1 : Int))))
              (Q ((AV.int IntKind.i64 (1 : Int), [])))
              (Q ((AV.int IntKind.i64 (0 : Int), []))))
             (Q ((AV.int IntKind.i64 (1 : Int), [])))))
           (Q ((AV.int IntKind.i64 (1 : Int), [])))))
         (Q ((AV.int IntKind.i64 (1 : Int), [])))))
       (Q ((AV.int IntKind.i64 (1 : Int), [])))))
     (Q ((AV.int IntKind.i64 (1 : Int), [])))))
   (Q ((AV.int IntKind.i64 (1 : Int), [])))))
 (Q ((AV.int IntKind.i64 (1 : Int), [])))) := by kernel_rfl
theorem nf19c (n pi e g fi : Int) (nl : Bool) (a b c : List AV) (Q : AV × List AObj → Prop) : inlW Try.prog H0 S5 6 (InO Try.prog H0 S5 6 6) 19 [cf n pi e g fi nl [a, b, c]] [] Q = (
br (decide (n ≥ (6 : Int)))
 (br (!decide (n ≤ (12 : Int)))
  (Q ((AV.int IntKind.i64 (1 : Int), [])))
  (br (decide (e ≥ (0 : Int)))
   (br (!decide (e ≤ (100 : Int)))
    (Q ((AV.int IntKind.i64 (1 : Int), [])))
    (br (decide (g ≥ (0 : Int)))
     (br (!decide (g ≤ (100 : Int)))
      (Q ((AV.int IntKind.i64 (1 : Int), [])))
      (br (decide (fi ≥ (0 : Int)))
       (br (!decide (fi ≤ (65535 : Int)))
        (Q ((AV.int IntKind.i64 (1 : Int), [])))
        (br (decide (pi ≥ IntKind.i64.wrap ((4 : Int) * IntKind.i64.wrap (IntKind.i64.wrap (e + g) + (1 : Int)))))
         (br (!decide (pi ≤ (10000 : Int)))
          (Q ((AV.int IntKind.i64 (1 : Int), [])))
          (br (decide ((([a, b, c].getD (0 : Nat) []).getD (0 : Nat) AV.gone).toI ≥ (-1 : Int)))
           (br (!decide ((([a, b, c].getD (0 : Nat) []).getD (0 : Nat) AV.gone).toI ≤ IntKind.i64.wrap (n - (1 : Int))))
            (Q ((AV.int IntKind.i64 (1 : Int), [])))
            (br (decide ((([a, b, c].getD (1 : Nat) []).getD (0 : Nat) AV.gone).toI ≥ (-1 : Int)))
             (br (!decide ((([a, b, c].getD (1 : Nat) []).getD (0 : Nat) AV.gone).toI ≤ IntKind.i64.wrap (n - (1 : Int))))
              (Q ((AV.int IntKind.i64 (1 : Int), [])))
              (br (decide ((([a, b, c].getD (2 : Nat) []).getD (0 : Nat) AV.gone).toI ≥ (-1 : Int)))
               (br (!decide ((([a, b, c].getD (2 : Nat) []).getD (0 : Nat) AV.gone).toI ≤ IntKind.i64.wrap (n - (1 : Int))))
                (Q ((AV.int IntKind.i64 (1 : Int), [])))
                (Q ((AV.int IntKind.i64 (0 : Int), []))))
               (Q ((AV.int IntKind.i64 (1 : Int), [])))))
             (Q ((AV.int IntKind.i64 (1 : Int), [])))))
           (Q ((AV.int IntKind.i64 (1 : Int), [])))))
         (Q ((AV.int IntKind.i64 (1 : Int), [])))))
       (Q ((AV.int IntKind.i64 (1 : Int), [])))))
     (Q ((AV.int IntKind.i64 (1 : Int), [])))))
   (Q ((AV.int IntKind.i64 (1 : Int), [])))))
 (Q ((AV.int IntKind.i64 (1 : Int), [])))) := by kernel_rfl
end Go.Proofs.YthihinlamlamhaaE
/- Configurations: the specs hold. -/
namespace Go.Proofs.YthihinlamlamhaaE
open Go
set_option linter.unusedVariables false
set_option linter.unusedSimpArgs false
set_option maxRecDepth 100000

theorem irow_app (k : IntKind) (a b : List Int) : irow k (a ++ b) = irow k a ++ irow k b := by simp [irow]
theorem okLMake : OkLp Try.prog H0 10 6 lMake := by
  refine okLp_of (U := 6) (k := 6) okS5 lMake (fun vals _ => match vals with | [_, _, _, .int _ i] => (3 - i).toNat | _ => 0) fun vals h Q hl => ?_
  unfold lMake at hl
  split at hl
  · rename_i i n' pi' e' g' fi' nl rs z1 z2 z3 z4 z5 n pi e g fi
    obtain ⟨⟨h0, h1, h2⟩, hq1, hq2⟩ := hyp_iff.1 hl
    subst h0
    refine to (nf10a ..) ?_
    have w1 : IntKind.i64.wrap (n + 1) = n + 1 := wr (by omega) (by omega)
    rw [w1]
    refine br_intro (fun hc => br_intro (fun hc2 => ?_) fun hc2 => ?_) fun hc => ?_
    · have hc := of_decide_eq_true hc
      refine chk_iff.2 ⟨⟨by omega, hc⟩, chk_iff.2 ⟨by omega, ?_⟩⟩
      have hr := rem_lt ((rs.getD (0 : Int).toNat []).getD 0 AV.gone).toI (show 0 < n + 1 by omega)
      have w2 : IntKind.i64.wrap ((0 : Int) + 1) = 1 := by decide
      have w3 : IntKind.i64.wrap (s_rem ((rs.getD (0 : Int).toNat []).getD 0 AV.gone).toI (n + 1) - 1) = s_rem ((rs.getD (0 : Int).toNat []).getD 0 AV.gone).toI (n + 1) - 1 := wr (by omega) (by omega)
      rw [w2, w3]
      exact ⟨by show (3 - 1 : Int).toNat < (3 - 0 : Int).toNat; decide, ⟨rfl, by omega, h1, h2, [_], rfl, rfl, fun p hp => by rw [List.mem_singleton.1 hp]; omega⟩, hq2⟩
    · exact absurd hc2 (by simp)
    · exact hq1
  · rename_i i n' pi' e' g' fi' nl rs z1 z2 z3 z4 z5 n pi e g fi m rows
    obtain ⟨⟨h0, hm, h1, h2, qs, rfl, hqs, hqb⟩, hq2⟩ := hl
    subst h0
    refine to (nf10b ..) ?_
    have w1 : IntKind.i64.wrap (n + 1) = n + 1 := wr (by omega) (by omega)
    rw [w1]
    have w2 : IntKind.i64.wrap ((m : Int) + 1) = ((m + 1 : Nat) : Int) := wr (by omega) (by omega)
    have fin : Q (.exit 0) [.ptr 0 0, .ptr 1 0] [.box [.int .i64 z1, .int .i64 z2, .int .i64 z3, .int .i64 z4, .int .i64 z5, .nils], .box [.int .i64 n, .int .i64 pi, .int .i64 e, .int .i64 g, .int .i64 fi, .sl 2 0 m], .arr 2 3 [.int .i64] (irow .i64 qs)] := by
      rw [← hqs]; exact hq2 qs (by omega) hqb
    refine br_intro (fun hc => br_intro (fun hc2 => ?_) fun hc2 => fin) fun hc => fin
    have hc := of_decide_eq_true hc
    have hc2 := of_decide_eq_true hc2
    have hr := rem_lt ((rs.getD (m : Int).toNat []).getD 0 AV.gone).toI (show 0 < n + 1 by omega)
    have w3 : IntKind.i64.wrap (s_rem ((rs.getD (m : Int).toNat []).getD 0 AV.gone).toI (n + 1) - 1) = s_rem ((rs.getD (m : Int).toNat []).getD 0 AV.gone).toI (n + 1) - 1 := wr (by omega) (by omega)
    refine chk_iff.2 ⟨⟨by omega, hc⟩, chk_iff.2 ⟨by omega, ?_⟩⟩
    rw [irow_len]
    refine chk_iff.2 ⟨hqs.symm, chk_iff.2 ⟨by omega, chk_iff.2 ⟨by omega, ?_⟩⟩⟩
    rw [w2, w3, hqs]
    exact ⟨by show (3 - ((m + 1 : Nat) : Int)).toNat < (3 - (m : Int)).toNat; omega, ⟨rfl, by omega, h1, h2, qs ++ [s_rem ((rs.getD (m : Int).toNat []).getD 0 AV.gone).toI (n + 1) - 1], by simp [irow], by simp [hqs], fun p hp => by
      rcases List.mem_append.1 hp with hp | hp
      · exact hqb p hp
      · rw [List.mem_singleton.1 hp]; omega⟩, hq2⟩
  · exact hl.elim
theorem okSCL : OkSp Try.prog H0 SCL := ⟨okS5.fn, okLMake, trivial⟩
theorem ok10 : OkS Try.prog H0 10 sMake := by
  intro args h Q hq
  unfold sMake at hq
  split at hq
  · rename_i n pi e g fi nl rs
    refine in_ok (S := SCL) (U := 6) (k := 6) okSCL (to (nf10 ..) ?_)
    have r1 := rem_lt n (show (0 : Int) < 7 by omega)
    have r2 := rem_lt e (show (0 : Int) < 21 by omega)
    have r3 := rem_lt g (show (0 : Int) < 21 by omega)
    have r4 := rem_lt pi (show (0 : Int) < 100 by omega)
    have r5 := rem_lt fi (show (0 : Int) < 40 by omega)
    have r6 := rem_lt fi (show (0 : Int) < 65536 by omega)
    rw [wr (x := 6 + s_rem n 7) (by omega) (by omega), wr (x := s_rem e 21 + s_rem g 21) (by omega) (by omega), wr (x := s_rem e 21 + s_rem g 21 + 1) (by omega) (by omega), wr (x := 4 * (s_rem e 21 + s_rem g 21 + 1)) (by omega) (by omega),
      wr (x := 4 * (s_rem e 21 + s_rem g 21 + 1) + s_rem pi 100) (by omega) (by omega), wr (x := 65535 - s_rem fi 40) (by omega) (by omega)]
    have take : ∀ ps : List Int, List.take ps.length (List.drop 0 (List.map (fun n => [AV.int IntKind.i64 n]) ps)) = irow .i64 ps := fun ps => by
      rw [List.drop_zero, List.take_of_length_le (by simp)]; rfl
    refine br_intro (fun _ => hyp_iff.2 ⟨⟨rfl, by omega, by omega⟩, ?_, fun ps h1 h2 => chk_iff.2 ⟨by simp, ?_⟩⟩) fun _ => hyp_iff.2 ⟨⟨rfl, by omega, by omega⟩, ?_, fun ps h1 h2 => chk_iff.2 ⟨by simp, ?_⟩⟩
    · exact hq _ _ _ _ _ true [] ⟨by omega, by omega, by omega, by omega, by omega, by omega, by omega, by omega, by omega, by omega, by simp, by simp⟩
    · rw [take]; exact hq _ _ _ _ _ false ps ⟨by omega, by omega, by omega, by omega, by omega, by omega, by omega, by omega, by omega, by omega, h1, h2⟩
    · exact hq _ _ _ _ _ true [] ⟨by omega, by omega, by omega, by omega, by omega, by omega, by omega, by omega, by omega, by omega, by simp, by simp⟩
    · rw [take]; exact hq _ _ _ _ _ false ps ⟨by omega, by omega, by omega, by omega, by omega, by omega, by omega, by omega, by omega, by omega, h1, h2⟩
  · exact hq.elim
theorem ok19 : OkS Try.prog H0 19 sCheck := by
  intro args h Q hq
  unfold sCheck at hq
  split at hq
  · rename_i n pi e g fi nl rs
    obtain ⟨h0, hQ⟩ := hyp_iff.1 hq
    simp only [s_confOk, Bool.and_eq_true, decide_eq_true_eq] at h0
    obtain ⟨⟨⟨⟨⟨⟨⟨⟨⟨⟨⟨h1, h2⟩, h3⟩, h4⟩, h5⟩, h6⟩, h7⟩, h8⟩, h9⟩, h10⟩, h11⟩, h12⟩ := h0
    have w1 : IntKind.i64.wrap (e + g) = e + g := wr (by omega) (by omega)
    have w2 : IntKind.i64.wrap (e + g + 1) = e + g + 1 := wr (by omega) (by omega)
    have w3 : IntKind.i64.wrap (4 * (e + g + 1)) = 4 * (e + g + 1) := wr (by omega) (by omega)
    have w4 : IntKind.i64.wrap (n - 1) = n - 1 := wr (by omega) (by omega)
    have w5 : IntKind.i64.wrap ((0 : Int) + 1) = 1 := by decide
    have w6 : IntKind.i64.wrap ((1 : Int) + 1) = 2 := by decide
    have hall : ∀ r ∈ rs, -1 ≤ (r.getD 0 AV.gone).toI ∧ (r.getD 0 AV.gone).toI < n := fun r hr => by
      have := List.all_eq_true.1 h12 _ (List.mem_map_of_mem hr)
      simpa using this
    refine in_ok (S := S5) (U := 6) (k := 6) okS5 ?_
    have hl : rs.length ≤ 3 := by simpa [ints] using h11
    match rs, hl, hall with
    | [], _, _ =>
      refine to (nf19z ..) ?_
      rw [w1, w2, w3]
      repeat' first | exact hQ | refine br_intro (fun hc => ?_) fun hc => ?_
      all_goals (exfalso; simp only [Bool.not_eq_true', decide_eq_false_iff_not, decide_eq_true_eq] at hc; omega)
    | [a], _, hall =>
      have ha := hall a (by simp)
      refine to (nf19a ..) ?_
      rw [w1, w2, w3, w4]
      repeat' first | exact hQ | refine br_intro (fun hc => ?_) fun hc => ?_
      all_goals (exfalso; simp only [Bool.not_eq_true', decide_eq_false_iff_not, decide_eq_true_eq] at hc; first | omega | (change ¬ (a.getD 0 AV.gone).toI ≥ -1 at hc; omega) | (change ¬ (a.getD 0 AV.gone).toI ≤ n - 1 at hc; omega))
    | [a, b], _, hall =>
      have ha := hall a (by simp)
      have hb := hall b (by simp)
      refine to (nf19b ..) ?_
      rw [w1, w2, w3, w4]
      repeat' first | exact hQ | refine br_intro (fun hc => ?_) fun hc => ?_
      all_goals (exfalso; simp only [Bool.not_eq_true', decide_eq_false_iff_not, decide_eq_true_eq] at hc; first | omega | (change ¬ (a.getD 0 AV.gone).toI ≥ -1 at hc; omega) | (change ¬ (a.getD 0 AV.gone).toI ≤ n - 1 at hc; omega) | (change ¬ (b.getD 0 AV.gone).toI ≥ -1 at hc; omega) | (change ¬ (b.getD 0 AV.gone).toI ≤ n - 1 at hc; omega))
    | [a, b, c], _, hall =>
      have ha := hall a (by simp)
      have hb := hall b (by simp)
      have hc' := hall c (by simp)
      refine to (nf19c ..) ?_
      rw [w1, w2, w3, w4]
      repeat' first | exact hQ | refine br_intro (fun hc => ?_) fun hc => ?_
      all_goals (exfalso; simp only [Bool.not_eq_true', decide_eq_false_iff_not, decide_eq_true_eq] at hc; first | omega | (change ¬ (a.getD 0 AV.gone).toI ≥ -1 at hc; omega) | (change ¬ (a.getD 0 AV.gone).toI ≤ n - 1 at hc; omega) | (change ¬ (b.getD 0 AV.gone).toI ≥ -1 at hc; omega) | (change ¬ (b.getD 0 AV.gone).toI ≤ n - 1 at hc; omega) | (change ¬ (c.getD 0 AV.gone).toI ≥ -1 at hc; omega) | (change ¬ (c.getD 0 AV.gone).toI ≤ n - 1 at hc; omega))
    | _ :: _ :: _ :: _ :: _, hl, _ => simp at hl
  · rename_i n pi e g fi
    obtain ⟨h0, hQ⟩ := hyp_iff.1 hq
    simp only [s_confOk, Bool.and_eq_true, decide_eq_true_eq] at h0
    obtain ⟨⟨⟨⟨⟨⟨⟨⟨⟨⟨⟨h1, h2⟩, h3⟩, h4⟩, h5⟩, h6⟩, h7⟩, h8⟩, h9⟩, h10⟩, h11⟩, h12⟩ := h0
    have w1 : IntKind.i64.wrap (e + g) = e + g := wr (by omega) (by omega)
    have w2 : IntKind.i64.wrap (e + g + 1) = e + g + 1 := wr (by omega) (by omega)
    have w3 : IntKind.i64.wrap (4 * (e + g + 1)) = 4 * (e + g + 1) := wr (by omega) (by omega)
    refine in_ok (S := S5) (U := 6) (k := 6) okS5 (to (nf19n ..) ?_)
    rw [w1, w2, w3]
    repeat' first | exact hQ | refine br_intro (fun hc => ?_) fun hc => ?_
    all_goals (exfalso; simp only [Bool.not_eq_true', decide_eq_false_iff_not, decide_eq_true_eq] at hc; omega)
  · exact hq.elim
end Go.Proofs.YthihinlamlamhaaE
/- The structs of this program, opened. -/
namespace Go.Proofs.YthihinlamlamhaaE
open Go
set_option linter.unusedVariables false
set_option maxRecDepth 100000

theorem op_ints (w : World) : Op Try.prog w 22 (ARow [.int .i64] (AInt .i64)) := op_slice Try.underlying22 (by kernel_rfl) (by decide) (op_int Try.underlying3) fun _ => int_pure
theorem op_bytes (w : World) : Op Try.prog w 25 (ARow [.int .u8] (AInt .u8)) := op_slice Try.underlying25 (by kernel_rfl) (by decide) (op_int Try.underlying5) fun _ => int_pure
abbrev AConf : List AV → Prop := Parts [AInt .i64, AInt .i64, AInt .i64, AInt .i64, AInt .i64, ARow [.int .i64] (AInt .i64)]
theorem op_conf (w : World) : Op Try.prog w 24 AConf :=
  op_struct Try.underlying24 (by kernel_rfl) ⟨op_int Try.underlying3, op_int Try.underlying3, op_int Try.underlying3, op_int Try.underlying3, op_int Try.underlying3, op_ints w, trivial⟩
theorem conf_form {cs : List AV} (h : AConf cs) : ∃ (n pi e g fi : Int) (nl : Bool) (rs : List (List AV)), cs = [.int .i64 n, .int .i64 pi, .int .i64 e, .int .i64 g, .int .i64 fi, .row nl [.int .i64] rs] := by
  obtain ⟨_, _, rfl, ⟨a, rfl, _⟩, _, _, rfl, ⟨b, rfl, _⟩, _, _, rfl, ⟨c, rfl, _⟩, _, _, rfl, ⟨d, rfl, _⟩, _, _, rfl, ⟨e, rfl, _⟩, _, _, rfl, ⟨nl, rs, rfl, _⟩, rfl⟩ := h
  exact ⟨a, b, c, d, e, nl, rs, rfl⟩
theorem vr_nil {E : En} {nl : Bool} {sh : List K} {rs : List (List AV)} {v : Value} (h : VR E (.row nl sh rs) v) : nl = true → rs = [] := fun hn => by
  simp only [VR] at h
  obtain ⟨a, cap, _, h1, _, h2, _⟩ := h
  exact List.eq_nil_of_length_eq_zero (by have := (h2 hn).2; omega)
theorem bytes_of {rs : List (List AV)} (h : ∀ r ∈ rs, AInt .u8 r) : s_bytes rs := fun r hr => by
  obtain ⟨n, rfl, hw⟩ := h r hr
  simp only [Lit.wf, Bool.and_eq_true, decide_eq_true_eq] at hw
  have e1 : IntKind.u8.min = 0 := by decide
  have e2 : IntKind.u8.max = 255 := by decide
  show 0 ≤ n ∧ n ≤ 255
  omega
end Go.Proofs.YthihinlamlamhaaE
