/- spread.Run in general: one owner, two, none; whatever is emitted: specs. -/
import Derived.Test.YtiemjcchlfbglaaGreatBcI
import Derived.KernelRfl
namespace Go.Proofs.YtiemjcchlfbglaaGreatE
open Go
set_option linter.unusedVariables false

structure RG where
  n : Int
  dir : Int
  sl : Int
  pi : Int
  way : List (List AV)
  sts : List (List AV)
  dvs : List (List AV)
  em : Int → Int → ByteArray → ByteArray
def s_emF (F : List AV → ByteArray) (n pi e g fi : Int) (nl : Bool) (ps : List (List AV)) (kind at_ fr to_ : Int) (nl1 : Bool) (acts : List (List AV)) (nl2 : Bool) (ds : List (List AV)) (ro sl : Int) : Int → Int → ByteArray → ByteArray :=
  fun fm dst base => F (emA n pi e g fi nl ps kind at_ fr to_ nl1 acts (.row nl2 [.int .i64] ds) ro sl fm dst base)
def s_gCome (P : RG) (sides done : List (List AV)) (node back : Int) : ByteArray :=
  if ((done.getD (s_rem (node + -P.dir * back) P.n).toNat []).getD 0 AV.gone).toB then s_clean (P.em (s_rem (node + -P.dir * back) P.n) node (s_out2 (sides.getD (s_rem (node + -P.dir * back) P.n).toNat []))) else ⟨#[]⟩
def sComeG (F : List AV → ByteArray) : SW := fun args h Q => match args, h with
  | [.ptr 0 0, .int .i64 node, .int .i64 back], [.box [.int .i64 n, .int .i64 pi, .int .i64 e, .int .i64 g, .int .i64 fi, .row nl [.int .i64] ps, .int .i64 kind, .int .i64 at_, .int .i64 fr, .int .i64 to_, .row nl1 [.int .i64, .int .i64, .str] acts, .row nl2 [.int .i64] ds, .int .i64 ro, .int .i64 sl, .int .i64 dir, .row nl4 [.int .i64] sts, .row nl5 [.int .i64] dvs, .sl 1 0 n1, .sl 2 0 n2], .arr 2 53 [.str, .str, .str, .int .i64] sides, .arr 2 4 [.bool] done] =>
    Hyp (s_confOk n pi e g fi (ints ps) = true ∧ s_actsB acts ∧ 0 ≤ ro ∧ ro ≤ 1000000 ∧ 0 ≤ sl ∧ sl ≤ 1000000 ∧ (dir = 1 ∨ dir = -1) ∧ 0 ≤ node ∧ node < n ∧ (back = 1 ∨ back = 2) ∧ n1 = n.toNat ∧ n2 = n.toNat ∧ sides.length = n.toNat ∧ done.length = n.toNat ∧ s_small sides) ∧
      ∀ z, z = s_gCome ⟨n, dir, sl, pi, [], sts, dvs, s_emF F n pi e g fi nl ps kind at_ fr to_ nl1 acts nl2 ds ro sl⟩ sides done node back → Q (.str z, [.box [.int .i64 n, .int .i64 pi, .int .i64 e, .int .i64 g, .int .i64 fi, .row nl [.int .i64] ps, .int .i64 kind, .int .i64 at_, .int .i64 fr, .int .i64 to_, .row nl1 [.int .i64, .int .i64, .str] acts, .row nl2 [.int .i64] ds, .int .i64 ro, .int .i64 sl, .int .i64 dir, .row nl4 [.int .i64] sts, .row nl5 [.int .i64] dvs, .sl 1 0 n1, .sl 2 0 n2], .arr 2 53 [.str, .str, .str, .int .i64] sides, .arr 2 4 [.bool] done])
  | _, _ => False
/-- One node more. -/
def s_nd (P : RG) (k : Nat) : Int := ((P.way.getD k []).getD 0 AV.gone).toI
def s_gDir (P : RG) (sides done : List (List AV)) (k : Nat) : ByteArray :=
  if k = 0 then s_guard P.pi (s_int P.sts (s_nd P k)) (s_int P.dvs (s_nd P k)) (s_gCome P sides done (s_nd P k) 1) else s_gCome P sides done (s_nd P k) 1
def s_gNew (P : RG) (sides done : List (List AV)) (k : Nat) : List AV :=
  [.str (s_gDir P sides done k), .str (s_gCome P sides done (s_nd P k) 2),
   .str (if s_int P.sts (s_nd P k) = 0 then ⟨#[]⟩ else s_out (decide (0 < k) || decide (P.n ≤ P.sl)) (s_gDir P sides done k) (s_gCome P sides done (s_nd P k) 2)), .int .i64 ((k : Int) + 1)]
def s_gIterP (P : RG) : List (List AV) → List (List AV) → Nat → Nat → List (List AV) × List (List AV)
  | sides, done, k, 0 => (sides, done)
  | sides, done, k, j + 1 => s_gIterP P (sides.set (s_nd P k).toNat (s_gNew P sides done k)) (done.set (s_nd P k).toNat [.bool true]) (k + 1) j
def s_gIterS (P : RG) (sides done : List (List AV)) (k j : Nat) : List (List AV) := (s_gIterP P sides done k j).1
def ownS (s : ByteArray) : List AV := [.str ⟨#[]⟩, .str ⟨#[]⟩, .str s, .int .i64 0]
def s_gI1 (n sl : Int) (s : ByteArray) : List (List AV) := (List.replicate n.toNat zeroS).set sl.toNat (ownS s)
def s_gI2 (n sl : Int) : List (List AV) := (List.replicate n.toNat [.bool false]).set sl.toNat [.bool true]
def s_gI3 (n a : Int) (s s2 : ByteArray) : List (List AV) := ((List.replicate n.toNat zeroS).set a.toNat (ownS s)).set (s_rem (a + 1) n).toNat (ownS s2)
def s_gI4 (n a : Int) : List (List AV) := ((List.replicate n.toNat [.bool false]).set a.toNat [.bool true]).set (s_rem (a + 1) n).toNat [.bool true]
def s_wayIn (n : Int) (way : List (List AV)) : Prop := ∀ k : Nat, k < way.length → 0 ≤ ((way.getD k []).getD 0 AV.gone).toI ∧ ((way.getD k []).getD 0 AV.gone).toI < n
def lRunG (F : List AV → ByteArray) : LW := fun vals h Q => match vals, h with
  | [.ptr 0 0, .row nw [.int .i64] way, .int .i64 len, .int .i64 k], [.box [.int .i64 n, .int .i64 pi, .int .i64 e, .int .i64 g, .int .i64 fi, .row nl [.int .i64] ps, .int .i64 kind, .int .i64 at_, .int .i64 fr, .int .i64 to_, .row nl1 [.int .i64, .int .i64, .str] acts, .row nl2 [.int .i64] ds, .int .i64 ro, .int .i64 sl, .int .i64 dir, .row nl4 [.int .i64] sts, .row nl5 [.int .i64] dvs, .sl 1 0 n1, .sl 2 0 n2], .arr 2 53 [.str, .str, .str, .int .i64] sides, .arr 2 4 [.bool] done] =>
    Hyp (s_confOk n pi e g fi (ints ps) = true ∧ s_actsB acts ∧ 0 ≤ ro ∧ ro ≤ 1000000 ∧ 0 ≤ sl ∧ sl ≤ 1000000 ∧ (dir = 1 ∨ dir = -1) ∧ (sts.length : Int) = n ∧ (dvs.length : Int) = n ∧ n1 = n.toNat ∧ n2 = n.toNat ∧ 0 ≤ k ∧ k ≤ len ∧ len = way.length ∧ way.length ≤ 12 ∧ s_wayIn n way ∧ sides.length = n.toNat ∧ done.length = n.toNat ∧ s_small sides ∧ s_rowsN sides 4 ∧ s_rowsN done 1) ∧
        ∀ rows rowd, rows = s_gIterS ⟨n, dir, sl, pi, way, sts, dvs, s_emF F n pi e g fi nl ps kind at_ fr to_ nl1 acts nl2 ds ro sl⟩ sides done k.toNat (len - k).toNat → Q (.exit 2) [.ptr 0 0] [.box [.int .i64 n, .int .i64 pi, .int .i64 e, .int .i64 g, .int .i64 fi, .row nl [.int .i64] ps, .int .i64 kind, .int .i64 at_, .int .i64 fr, .int .i64 to_, .row nl1 [.int .i64, .int .i64, .str] acts, .row nl2 [.int .i64] ds, .int .i64 ro, .int .i64 sl, .int .i64 dir, .row nl4 [.int .i64] sts, .row nl5 [.int .i64] dvs, .sl 1 0 n1, .sl 2 0 n2], .arr 2 53 [.str, .str, .str, .int .i64] rows, .arr 2 4 [.bool] rowd]
  | _, _ => False
def sRunF (F : List AV → ByteArray) : SW := fun args h Q => match args, h with
  | [.agg [.int .i64 n, .int .i64 pi, .int .i64 e, .int .i64 g, .int .i64 fi, .row nl [.int .i64] ps], .agg [.int .i64 kind, .int .i64 at_, .int .i64 fr, .int .i64 to_, .row nl1 [.int .i64, .int .i64, .str] acts, .row nl2 [.int .i64] ds], .int .i64 ro, .int .i64 sl, .int .i64 dir, .row nl3 [.str] [[.str s]], .row nl4 [.int .i64] sts, .row nl5 [.int .i64] dvs], [] => Hyp (s_confOk n pi e g fi (ints ps) = true ∧ s_actsB acts ∧ 0 ≤ ro ∧ ro ≤ 1000000 ∧ 0 ≤ sl ∧ sl ≤ 1000000 ∧ (dir = 1 ∨ dir = -1) ∧ (sts.length : Int) = n ∧ (dvs.length : Int) = n ∧ sl < n ∧ s.size ≤ 1000000) ∧ ∀ rows, rows = s_gIterS ⟨n, dir, sl, pi, (s_wayL n sl dir (n - 1).toNat), sts, dvs, s_emF F n pi e g fi nl ps kind at_ fr to_ nl1 acts nl2 ds ro sl⟩ (s_gI1 n sl s) (s_gI2 n sl) 0 (n - 1).toNat → Q (.row false [.str, .str, .str, .int .i64] rows, [])
  | [.agg [.int .i64 n, .int .i64 pi, .int .i64 e, .int .i64 g, .int .i64 fi, .row nl [.int .i64] ps], .agg [.int .i64 kind, .int .i64 at_, .int .i64 fr, .int .i64 to_, .row nl1 [.int .i64, .int .i64, .str] acts, .row nl2 [.int .i64] ds], .int .i64 ro, .int .i64 sl, .int .i64 dir, .row nl3 [.str] [[.str s], [.str s2]], .row nl4 [.int .i64] sts, .row nl5 [.int .i64] dvs], [] => Hyp (s_confOk n pi e g fi (ints ps) = true ∧ s_actsB acts ∧ 0 ≤ ro ∧ ro ≤ 1000000 ∧ 0 ≤ sl ∧ sl ≤ 1000000 ∧ (dir = 1 ∨ dir = -1) ∧ (sts.length : Int) = n ∧ (dvs.length : Int) = n ∧ n ≤ sl ∧ sl < n + ps.length ∧ 0 ≤ s_pair ps (sl - n) ∧ s_pair ps (sl - n) < n ∧ s.size ≤ 1000000 ∧ s2.size ≤ 1000000) ∧ ∀ rows, rows = s_gIterS ⟨n, dir, sl, pi, (s_wayL n (s_last n (s_pair ps (sl - n)) dir) dir (n - 2).toNat), sts, dvs, s_emF F n pi e g fi nl ps kind at_ fr to_ nl1 acts nl2 ds ro sl⟩ (s_gI3 n (s_pair ps (sl - n)) s s2) (s_gI4 n (s_pair ps (sl - n))) 0 (n - 2).toNat → Q (.row false [.str, .str, .str, .int .i64] rows, [])
  | [.agg [.int .i64 n, .int .i64 pi, .int .i64 e, .int .i64 g, .int .i64 fi, .row nl [.int .i64] ps], .agg [.int .i64 kind, .int .i64 at_, .int .i64 fr, .int .i64 to_, .row nl1 [.int .i64, .int .i64, .str] acts, .row nl2 [.int .i64] ds], .int .i64 ro, .int .i64 sl, .int .i64 dir, .row nl3 [.str] [], .row nl4 [.int .i64] sts, .row nl5 [.int .i64] dvs], [] => Hyp (s_confOk n pi e g fi (ints ps) = true ∧ s_actsB acts ∧ 0 ≤ ro ∧ ro ≤ 1000000 ∧ 0 ≤ sl ∧ sl ≤ 1000000 ∧ (dir = 1 ∨ dir = -1) ∧ (sts.length : Int) = n ∧ (dvs.length : Int) = n ∧ n ≤ sl ∧ sl < n + ps.length ∧ s_pair ps (sl - n) = -1) ∧ Q (.row false [.str, .str, .str, .int .i64] (List.replicate n.toNat zeroS), [])
  | _, _ => False
def sRunG : SW := fun args h Q => match args, h with
  | [.agg [.int .i64 n, .int .i64 pi, .int .i64 e, .int .i64 g, .int .i64 fi, .row nl [.int .i64] ps], .agg [.int .i64 kind, .int .i64 at_, .int .i64 fr, .int .i64 to_, .row nl1 [.int .i64, .int .i64, .str] acts, .row nl2 [.int .i64] ds], .int .i64 ro, .int .i64 sl, .int .i64 dir, .row nl3 [.str] [[.str s]], .row nl4 [.int .i64] sts, .row nl5 [.int .i64] dvs], [] => Hyp (s_confOk n pi e g fi (ints ps) = true ∧ s_actsB acts ∧ 0 ≤ ro ∧ ro ≤ 1000000 ∧ 0 ≤ sl ∧ sl ≤ 1000000 ∧ (dir = 1 ∨ dir = -1) ∧ (sts.length : Int) = n ∧ (dvs.length : Int) = n ∧ sl < n ∧ s.size ≤ 1000000) ∧ ∀ em : Int → Int → ByteArray → ByteArray, (∀ (fm dst : Int) (base : ByteArray), 0 ≤ dst → dst ≤ 1000000 → base.size ≤ 1000000 → s_emitR (s_hit n kind at_ fm dst) fr to_ ro base (em fm dst base)) → ∀ rows, rows = s_gIterS ⟨n, dir, sl, pi, (s_wayL n sl dir (n - 1).toNat), sts, dvs, em⟩ (s_gI1 n sl s) (s_gI2 n sl) 0 (n - 1).toNat → Q (.row false [.str, .str, .str, .int .i64] rows, [])
  | [.agg [.int .i64 n, .int .i64 pi, .int .i64 e, .int .i64 g, .int .i64 fi, .row nl [.int .i64] ps], .agg [.int .i64 kind, .int .i64 at_, .int .i64 fr, .int .i64 to_, .row nl1 [.int .i64, .int .i64, .str] acts, .row nl2 [.int .i64] ds], .int .i64 ro, .int .i64 sl, .int .i64 dir, .row nl3 [.str] [[.str s], [.str s2]], .row nl4 [.int .i64] sts, .row nl5 [.int .i64] dvs], [] => Hyp (s_confOk n pi e g fi (ints ps) = true ∧ s_actsB acts ∧ 0 ≤ ro ∧ ro ≤ 1000000 ∧ 0 ≤ sl ∧ sl ≤ 1000000 ∧ (dir = 1 ∨ dir = -1) ∧ (sts.length : Int) = n ∧ (dvs.length : Int) = n ∧ n ≤ sl ∧ sl < n + ps.length ∧ 0 ≤ s_pair ps (sl - n) ∧ s_pair ps (sl - n) < n ∧ s.size ≤ 1000000 ∧ s2.size ≤ 1000000) ∧ ∀ em : Int → Int → ByteArray → ByteArray, (∀ (fm dst : Int) (base : ByteArray), 0 ≤ dst → dst ≤ 1000000 → base.size ≤ 1000000 → s_emitR (s_hit n kind at_ fm dst) fr to_ ro base (em fm dst base)) → ∀ rows, rows = s_gIterS ⟨n, dir, sl, pi, (s_wayL n (s_last n (s_pair ps (sl - n)) dir) dir (n - 2).toNat), sts, dvs, em⟩ (s_gI3 n (s_pair ps (sl - n)) s s2) (s_gI4 n (s_pair ps (sl - n))) 0 (n - 2).toNat → Q (.row false [.str, .str, .str, .int .i64] rows, [])
  | [.agg [.int .i64 n, .int .i64 pi, .int .i64 e, .int .i64 g, .int .i64 fi, .row nl [.int .i64] ps], .agg [.int .i64 kind, .int .i64 at_, .int .i64 fr, .int .i64 to_, .row nl1 [.int .i64, .int .i64, .str] acts, .row nl2 [.int .i64] ds], .int .i64 ro, .int .i64 sl, .int .i64 dir, .row nl3 [.str] [], .row nl4 [.int .i64] sts, .row nl5 [.int .i64] dvs], [] => Hyp (s_confOk n pi e g fi (ints ps) = true ∧ s_actsB acts ∧ 0 ≤ ro ∧ ro ≤ 1000000 ∧ 0 ≤ sl ∧ sl ≤ 1000000 ∧ (dir = 1 ∨ dir = -1) ∧ (sts.length : Int) = n ∧ (dvs.length : Int) = n ∧ n ≤ sl ∧ sl < n + ps.length ∧ s_pair ps (sl - n) = -1) ∧ Q (.row false [.str, .str, .str, .int .i64] (List.replicate n.toNat zeroS), [])
  | _, _ => False
def W4 (F : List AV → ByteArray) : Sp := ⟨(72, sEmitF F) :: (64, sGuard) :: U2.fn, []⟩
def W5 (F : List AV → ByteArray) (o w : SW) : Sp := ⟨(63, sComeG F) :: (43, o) :: (45, w) :: (72, sEmitF F) :: (64, sGuard) :: U2.fn, []⟩
def W5L (F : List AV → ByteArray) (o w : SW) : Sp := ⟨(W5 F o w).fn, [(27, 12, lRunG F)]⟩
def W6 : Sp := ⟨(27, sRunG) :: X5.fn, []⟩
end Go.Proofs.YtiemjcchlfbglaaGreatE
/- What path mode says of functions, printed by a program of this session; the kernel holds each. -/
namespace Go.Proofs.YtiemjcchlfbglaaGreatE
open Go
set_option maxRecDepth 100000
set_option linter.unusedVariables false
theorem nfComeG (F : List AV → ByteArray) (n pi e g fi kind at_ fr to_ ro sl dir : Int) (nl nl1 nl2 nl4 nl5 : Bool) (ps acts ds sts dvs sides done : List (List AV)) (n1 n2 : Nat) (node back : Int) (Q : AV × List AObj → Prop) : inlW Tryz.prog H0 (W4 F) 6 (InO Tryz.prog H0 (W4 F) 6 6) 63 [.ptr 0 0, .int .i64 node, .int .i64 back] [.box [.int .i64 n, .int .i64 pi, .int .i64 e, .int .i64 g, .int .i64 fi, .row nl [.int .i64] ps, .int .i64 kind, .int .i64 at_, .int .i64 fr, .int .i64 to_, .row nl1 [.int .i64, .int .i64, .str] acts, .row nl2 [.int .i64] ds, .int .i64 ro, .int .i64 sl, .int .i64 dir, .row nl4 [.int .i64] sts, .row nl5 [.int .i64] dvs, .sl 1 0 n1, .sl 2 0 n2], .arr 2 53 [.str, .str, .str, .int .i64] sides, .arr 2 4 [.bool] done] Q = (
((Hyp ((0 : Int) < n ∧
  n ≤ (1000000 : Int) ∧
    (-1000000 : Int) ≤ node ∧
      node ≤ (1000000 : Int) ∧
        (-1000000 : Int) ≤ IntKind.i64.wrap (IntKind.i64.wrap ((0 : Int) - dir) * back) ∧
          IntKind.i64.wrap (IntKind.i64.wrap ((0 : Int) - dir) * back) ≤ (1000000 : Int))) ∧
(chk ((0 : Int) ≤ s_rem (node + IntKind.i64.wrap (IntKind.i64.wrap ((0 : Int) - dir) * back)) n ∧
  s_rem (node + IntKind.i64.wrap (IntKind.i64.wrap ((0 : Int) - dir) * back)) n < (↑n2 : Int)) (chk ((0 : Nat) + (s_rem (node + IntKind.i64.wrap (IntKind.i64.wrap ((0 : Int) - dir) * back)) n).toNat < done.length) (br (!((done.getD ((0 : Nat) + (s_rem (node + IntKind.i64.wrap (IntKind.i64.wrap ((0 : Int) - dir) * back)) n).toNat)
          []).getD
      (0 : Nat) AV.gone).toB)
 (Q ((AV.str (ByteArray.mk #[]),
  [AObj.box
      [AV.int IntKind.i64 n, AV.int IntKind.i64 pi, AV.int IntKind.i64 e, AV.int IntKind.i64 g, AV.int IntKind.i64 fi,
        AV.row nl [K.int IntKind.i64] ps, AV.int IntKind.i64 kind, AV.int IntKind.i64 at_, AV.int IntKind.i64 fr,
        AV.int IntKind.i64 to_, AV.row nl1 [K.int IntKind.i64, K.int IntKind.i64, K.str] acts,
        AV.row nl2 [K.int IntKind.i64] ds, AV.int IntKind.i64 ro, AV.int IntKind.i64 sl, AV.int IntKind.i64 dir,
        AV.row nl4 [K.int IntKind.i64] sts, AV.row nl5 [K.int IntKind.i64] dvs, AV.sl (1 : Nat) (0 : Nat) n1,
        AV.sl (2 : Nat) (0 : Nat) n2],
    AObj.arr (2 : Nat) (53 : Nat) [K.str, K.str, K.str, K.int IntKind.i64] sides,
    AObj.arr (2 : Nat) (4 : Nat) [K.bool] done])))
 (chk ((0 : Int) ≤ s_rem (node + IntKind.i64.wrap (IntKind.i64.wrap ((0 : Int) - dir) * back)) n ∧
  s_rem (node + IntKind.i64.wrap (IntKind.i64.wrap ((0 : Int) - dir) * back)) n < (↑n1 : Int)) (chk ((0 : Nat) + (s_rem (node + IntKind.i64.wrap (IntKind.i64.wrap ((0 : Int) - dir) * back)) n).toNat < sides.length) (((Hyp (s_dom n pi e g fi ps acts ro sl node
  ((sides.getD ((0 : Nat) + (s_rem (node + IntKind.i64.wrap (IntKind.i64.wrap ((0 : Int) - dir) * back)) n).toNat)
          []).getD
      (2 : Nat) AV.gone).toS)) ∧
 ((∀ (z107 : ByteArray),
 ((z107 =
  F
    [AV.agg
        [AV.int IntKind.i64 n, AV.int IntKind.i64 pi, AV.int IntKind.i64 e, AV.int IntKind.i64 g, AV.int IntKind.i64 fi,
          AV.row nl [K.int IntKind.i64] ps],
      AV.agg
        [AV.int IntKind.i64 kind, AV.int IntKind.i64 at_, AV.int IntKind.i64 fr, AV.int IntKind.i64 to_,
          AV.row nl1 [K.int IntKind.i64, K.int IntKind.i64, K.str] acts, AV.row nl2 [K.int IntKind.i64] ds],
      AV.int IntKind.i64 ro, AV.int IntKind.i64 sl,
      AV.int IntKind.i64 (s_rem (node + IntKind.i64.wrap (IntKind.i64.wrap ((0 : Int) - dir) * back)) n),
      AV.int IntKind.i64 node,
      AV.str
        ((sides.getD ((0 : Nat) + (s_rem (node + IntKind.i64.wrap (IntKind.i64.wrap ((0 : Int) - dir) * back)) n).toNat)
                []).getD
            (2 : Nat) AV.gone).toS]) →
 ((Hyp ((↑z107.size : Int) ≤ (4611686018427387904 : Int))) ∧
 (Q ((AV.str (s_clean z107),
  [AObj.box
      [AV.int IntKind.i64 n, AV.int IntKind.i64 pi, AV.int IntKind.i64 e, AV.int IntKind.i64 g, AV.int IntKind.i64 fi,
        AV.row nl [K.int IntKind.i64] ps, AV.int IntKind.i64 kind, AV.int IntKind.i64 at_, AV.int IntKind.i64 fr,
        AV.int IntKind.i64 to_, AV.row nl1 [K.int IntKind.i64, K.int IntKind.i64, K.str] acts,
        AV.row nl2 [K.int IntKind.i64] ds, AV.int IntKind.i64 ro, AV.int IntKind.i64 sl, AV.int IntKind.i64 dir,
        AV.row nl4 [K.int IntKind.i64] sts, AV.row nl5 [K.int IntKind.i64] dvs, AV.sl (1 : Nat) (0 : Nat) n1,
        AV.sl (2 : Nat) (0 : Nat) n2],
    AObj.arr (2 : Nat) (53 : Nat) [K.str, K.str, K.str, K.int IntKind.i64] sides,
    AObj.arr (2 : Nat) (4 : Nat) [K.bool] done])))))))))))))))) := by kernel_rfl
theorem nfRunGa (F : List AV → ByteArray) (n pi e g fi kind at_ fr to_ ro sl dir : Int) (nl nl1 nl2 nl4 nl5 : Bool) (ps acts ds sts dvs sides done : List (List AV)) (n1 n2 : Nat) (nw : Bool) (way : List (List AV)) (len k : Int) (Q : Ex → List AV → List AObj → Prop) : lpBody Tryz.prog H0 (W5 F sNo sNo) 6 6 27 12 [.ptr 0 0, .row nw [.int .i64] way, .int .i64 len, .int .i64 k] [.box [.int .i64 n, .int .i64 pi, .int .i64 e, .int .i64 g, .int .i64 fi, .row nl [.int .i64] ps, .int .i64 kind, .int .i64 at_, .int .i64 fr, .int .i64 to_, .row nl1 [.int .i64, .int .i64, .str] acts, .row nl2 [.int .i64] ds, .int .i64 ro, .int .i64 sl, .int .i64 dir, .row nl4 [.int .i64] sts, .row nl5 [.int .i64] dvs, .sl 1 0 n1, .sl 2 0 n2], .arr 2 53 [.str, .str, .str, .int .i64] sides, .arr 2 4 [.bool] done] Q = (
br (decide (k < len))
 (chk ((0 : Int) ≤ k ∧ k < (↑way.length : Int)) (((Hyp (s_confOk n pi e g fi (List.map (fun r => (r.getD (0 : Nat) AV.gone).toI) ps) = true ∧
  s_actsB acts ∧
    (0 : Int) ≤ ro ∧
      ro ≤ (1000000 : Int) ∧
        (0 : Int) ≤ sl ∧
          sl ≤ (1000000 : Int) ∧
            (dir = (1 : Int) ∨ dir = (-1 : Int)) ∧
              (0 : Int) ≤ ((way.getD k.toNat []).getD (0 : Nat) AV.gone).toI ∧
                ((way.getD k.toNat []).getD (0 : Nat) AV.gone).toI < n ∧
                  ((1 : Int) = (1 : Int) ∨ (1 : Int) = (2 : Int)) ∧
                    n1 = n.toNat ∧ n2 = n.toNat ∧ sides.length = n.toNat ∧ done.length = n.toNat ∧ s_small sides)) ∧
 ((∀ (z103 : ByteArray),
 ((z103 =
  s_gCome
    { n := n, dir := dir, sl := sl, pi := pi, way := [], sts := sts, dvs := dvs,
      em := s_emF F n pi e g fi nl ps kind at_ fr to_ nl1 acts nl2 ds ro sl }
    sides done ((way.getD k.toNat []).getD (0 : Nat) AV.gone).toI (1 : Int)) →
 ((Hyp (s_confOk n pi e g fi (List.map (fun r => (r.getD (0 : Nat) AV.gone).toI) ps) = true ∧
  s_actsB acts ∧
    (0 : Int) ≤ ro ∧
      ro ≤ (1000000 : Int) ∧
        (0 : Int) ≤ sl ∧
          sl ≤ (1000000 : Int) ∧
            (dir = (1 : Int) ∨ dir = (-1 : Int)) ∧
              (0 : Int) ≤ ((way.getD k.toNat []).getD (0 : Nat) AV.gone).toI ∧
                ((way.getD k.toNat []).getD (0 : Nat) AV.gone).toI < n ∧
                  ((2 : Int) = (1 : Int) ∨ (2 : Int) = (2 : Int)) ∧
                    n1 = n.toNat ∧ n2 = n.toNat ∧ sides.length = n.toNat ∧ done.length = n.toNat ∧ s_small sides)) ∧
 ((∀ (z106 : ByteArray),
 ((z106 =
  s_gCome
    { n := n, dir := dir, sl := sl, pi := pi, way := [], sts := sts, dvs := dvs,
      em := s_emF F n pi e g fi nl ps kind at_ fr to_ nl1 acts nl2 ds ro sl }
    sides done ((way.getD k.toNat []).getD (0 : Nat) AV.gone).toI (2 : Int)) →
 br (IntKind.i64.wrap (k + (1 : Int)) == (1 : Int))
  (chk ((0 : Int) ≤ ((way.getD k.toNat []).getD (0 : Nat) AV.gone).toI ∧
  ((way.getD k.toNat []).getD (0 : Nat) AV.gone).toI < (↑sts.length : Int)) (chk ((0 : Int) ≤ ((way.getD k.toNat []).getD (0 : Nat) AV.gone).toI ∧
  ((way.getD k.toNat []).getD (0 : Nat) AV.gone).toI < (↑dvs.length : Int)) (((Hyp ((0 : Int) ≤ pi ∧ pi ≤ (1000000 : Int))) ∧
  ((∀ (z112 : ByteArray),
  ((z112 =
  s_guard pi ((sts.getD ((way.getD k.toNat []).getD (0 : Nat) AV.gone).toI.toNat []).getD (0 : Nat) AV.gone).toI
    ((dvs.getD ((way.getD k.toNat []).getD (0 : Nat) AV.gone).toI.toNat []).getD (0 : Nat) AV.gone).toI z103) →
  chk ((0 : Int) ≤ ((way.getD k.toNat []).getD (0 : Nat) AV.gone).toI ∧
  ((way.getD k.toNat []).getD (0 : Nat) AV.gone).toI < (↑sts.length : Int)) (br (((sts.getD ((way.getD k.toNat []).getD (0 : Nat) AV.gone).toI.toNat []).getD (0 : Nat) AV.gone).toI != (0 : Int))
   (br (decide (IntKind.i64.wrap (k + (1 : Int)) > (1 : Int)))
    (((Hyp (z112.size ≤ (1000000000 : Nat))) ∧
    ((∀ (z118 : ByteArray),
    ((z118 = s_out true z112 z106) →
    chk ((0 : Int) ≤ ((way.getD k.toNat []).getD (0 : Nat) AV.gone).toI ∧
  ((way.getD k.toNat []).getD (0 : Nat) AV.gone).toI < (↑n1 : Int)) (chk ((0 : Nat) + ((way.getD k.toNat []).getD (0 : Nat) AV.gone).toI.toNat < sides.length) (chk ((0 : Int) ≤ ((way.getD k.toNat []).getD (0 : Nat) AV.gone).toI ∧
  ((way.getD k.toNat []).getD (0 : Nat) AV.gone).toI < (↑n2 : Int)) (chk ((0 : Nat) + ((way.getD k.toNat []).getD (0 : Nat) AV.gone).toI.toNat < done.length) (Q (Ex.nrm) ([AV.ptr (0 : Nat) (0 : Nat), AV.row nw [K.int IntKind.i64] way, AV.int IntKind.i64 len,
  AV.int IntKind.i64 (IntKind.i64.wrap (k + (1 : Int)))]) ([AObj.box
    [AV.int IntKind.i64 n, AV.int IntKind.i64 pi, AV.int IntKind.i64 e, AV.int IntKind.i64 g, AV.int IntKind.i64 fi,
      AV.row nl [K.int IntKind.i64] ps, AV.int IntKind.i64 kind, AV.int IntKind.i64 at_, AV.int IntKind.i64 fr,
      AV.int IntKind.i64 to_, AV.row nl1 [K.int IntKind.i64, K.int IntKind.i64, K.str] acts,
      AV.row nl2 [K.int IntKind.i64] ds, AV.int IntKind.i64 ro, AV.int IntKind.i64 sl, AV.int IntKind.i64 dir,
      AV.row nl4 [K.int IntKind.i64] sts, AV.row nl5 [K.int IntKind.i64] dvs, AV.sl (1 : Nat) (0 : Nat) n1,
      AV.sl (2 : Nat) (0 : Nat) n2],
  AObj.arr (2 : Nat) (53 : Nat) [K.str, K.str, K.str, K.int IntKind.i64]
    (sides.set ((0 : Nat) + ((way.getD k.toNat []).getD (0 : Nat) AV.gone).toI.toNat)
      (AV.str z112 ::
        AV.str z106 ::
          AV.str z118 ::
            AV.int IntKind.i64 (IntKind.i64.wrap (k + (1 : Int))) ::
              List.drop ((0 : Nat) + (4 : Nat))
                (sides.getD ((0 : Nat) + ((way.getD k.toNat []).getD (0 : Nat) AV.gone).toI.toNat) []))),
  AObj.arr (2 : Nat) (4 : Nat) [K.bool]
    (done.set ((0 : Nat) + ((way.getD k.toNat []).getD (0 : Nat) AV.gone).toI.toNat)
      (AV.bool true ::
        List.drop ((0 : Nat) + (1 : Nat))
          (done.getD ((0 : Nat) + ((way.getD k.toNat []).getD (0 : Nat) AV.gone).toI.toNat) [])))]))))))))))
    (((Hyp (z112.size ≤ (1000000000 : Nat))) ∧
    ((∀ (z118 : ByteArray),
    ((z118 = s_out (decide (sl ≥ n)) z112 z106) →
    chk ((0 : Int) ≤ ((way.getD k.toNat []).getD (0 : Nat) AV.gone).toI ∧
  ((way.getD k.toNat []).getD (0 : Nat) AV.gone).toI < (↑n1 : Int)) (chk ((0 : Nat) + ((way.getD k.toNat []).getD (0 : Nat) AV.gone).toI.toNat < sides.length) (chk ((0 : Int) ≤ ((way.getD k.toNat []).getD (0 : Nat) AV.gone).toI ∧
  ((way.getD k.toNat []).getD (0 : Nat) AV.gone).toI < (↑n2 : Int)) (chk ((0 : Nat) + ((way.getD k.toNat []).getD (0 : Nat) AV.gone).toI.toNat < done.length) (Q (Ex.nrm) ([AV.ptr (0 : Nat) (0 : Nat), AV.row nw [K.int IntKind.i64] way, AV.int IntKind.i64 len,
  AV.int IntKind.i64 (IntKind.i64.wrap (k + (1 : Int)))]) ([AObj.box
    [AV.int IntKind.i64 n, AV.int IntKind.i64 pi, AV.int IntKind.i64 e, AV.int IntKind.i64 g, AV.int IntKind.i64 fi,
      AV.row nl [K.int IntKind.i64] ps, AV.int IntKind.i64 kind, AV.int IntKind.i64 at_, AV.int IntKind.i64 fr,
      AV.int IntKind.i64 to_, AV.row nl1 [K.int IntKind.i64, K.int IntKind.i64, K.str] acts,
      AV.row nl2 [K.int IntKind.i64] ds, AV.int IntKind.i64 ro, AV.int IntKind.i64 sl, AV.int IntKind.i64 dir,
      AV.row nl4 [K.int IntKind.i64] sts, AV.row nl5 [K.int IntKind.i64] dvs, AV.sl (1 : Nat) (0 : Nat) n1,
      AV.sl (2 : Nat) (0 : Nat) n2],
  AObj.arr (2 : Nat) (53 : Nat) [K.str, K.str, K.str, K.int IntKind.i64]
    (sides.set ((0 : Nat) + ((way.getD k.toNat []).getD (0 : Nat) AV.gone).toI.toNat)
      (AV.str z112 ::
        AV.str z106 ::
          AV.str z118 ::
            AV.int IntKind.i64 (IntKind.i64.wrap (k + (1 : Int))) ::
              List.drop ((0 : Nat) + (4 : Nat))
                (sides.getD ((0 : Nat) + ((way.getD k.toNat []).getD (0 : Nat) AV.gone).toI.toNat) []))),
  AObj.arr (2 : Nat) (4 : Nat) [K.bool]
    (done.set ((0 : Nat) + ((way.getD k.toNat []).getD (0 : Nat) AV.gone).toI.toNat)
      (AV.bool true ::
        List.drop ((0 : Nat) + (1 : Nat))
          (done.getD ((0 : Nat) + ((way.getD k.toNat []).getD (0 : Nat) AV.gone).toI.toNat) [])))])))))))))))
   (chk ((0 : Int) ≤ ((way.getD k.toNat []).getD (0 : Nat) AV.gone).toI ∧
  ((way.getD k.toNat []).getD (0 : Nat) AV.gone).toI < (↑n1 : Int)) (chk ((0 : Nat) + ((way.getD k.toNat []).getD (0 : Nat) AV.gone).toI.toNat < sides.length) (chk ((0 : Int) ≤ ((way.getD k.toNat []).getD (0 : Nat) AV.gone).toI ∧
  ((way.getD k.toNat []).getD (0 : Nat) AV.gone).toI < (↑n2 : Int)) (chk ((0 : Nat) + ((way.getD k.toNat []).getD (0 : Nat) AV.gone).toI.toNat < done.length) (Q (Ex.nrm) ([AV.ptr (0 : Nat) (0 : Nat), AV.row nw [K.int IntKind.i64] way, AV.int IntKind.i64 len,
  AV.int IntKind.i64 (IntKind.i64.wrap (k + (1 : Int)))]) ([AObj.box
    [AV.int IntKind.i64 n, AV.int IntKind.i64 pi, AV.int IntKind.i64 e, AV.int IntKind.i64 g, AV.int IntKind.i64 fi,
      AV.row nl [K.int IntKind.i64] ps, AV.int IntKind.i64 kind, AV.int IntKind.i64 at_, AV.int IntKind.i64 fr,
      AV.int IntKind.i64 to_, AV.row nl1 [K.int IntKind.i64, K.int IntKind.i64, K.str] acts,
      AV.row nl2 [K.int IntKind.i64] ds, AV.int IntKind.i64 ro, AV.int IntKind.i64 sl, AV.int IntKind.i64 dir,
      AV.row nl4 [K.int IntKind.i64] sts, AV.row nl5 [K.int IntKind.i64] dvs, AV.sl (1 : Nat) (0 : Nat) n1,
      AV.sl (2 : Nat) (0 : Nat) n2],
  AObj.arr (2 : Nat) (53 : Nat) [K.str, K.str, K.str, K.int IntKind.i64]
    (sides.set ((0 : Nat) + ((way.getD k.toNat []).getD (0 : Nat) AV.gone).toI.toNat)
      (AV.str z112 ::
        AV.str z106 ::
          AV.str (ByteArray.mk #[]) ::
            AV.int IntKind.i64 (IntKind.i64.wrap (k + (1 : Int))) ::
              List.drop ((0 : Nat) + (4 : Nat))
                (sides.getD ((0 : Nat) + ((way.getD k.toNat []).getD (0 : Nat) AV.gone).toI.toNat) []))),
  AObj.arr (2 : Nat) (4 : Nat) [K.bool]
    (done.set ((0 : Nat) + ((way.getD k.toNat []).getD (0 : Nat) AV.gone).toI.toNat)
      (AV.bool true ::
        List.drop ((0 : Nat) + (1 : Nat))
          (done.getD ((0 : Nat) + ((way.getD k.toNat []).getD (0 : Nat) AV.gone).toI.toNat) [])))]))))))))))))))
  (chk ((0 : Int) ≤ ((way.getD k.toNat []).getD (0 : Nat) AV.gone).toI ∧
  ((way.getD k.toNat []).getD (0 : Nat) AV.gone).toI < (↑sts.length : Int)) (br (((sts.getD ((way.getD k.toNat []).getD (0 : Nat) AV.gone).toI.toNat []).getD (0 : Nat) AV.gone).toI != (0 : Int))
   (br (decide (IntKind.i64.wrap (k + (1 : Int)) > (1 : Int)))
    (((Hyp (z103.size ≤ (1000000000 : Nat))) ∧
    ((∀ (z113 : ByteArray),
    ((z113 = s_out true z103 z106) →
    chk ((0 : Int) ≤ ((way.getD k.toNat []).getD (0 : Nat) AV.gone).toI ∧
  ((way.getD k.toNat []).getD (0 : Nat) AV.gone).toI < (↑n1 : Int)) (chk ((0 : Nat) + ((way.getD k.toNat []).getD (0 : Nat) AV.gone).toI.toNat < sides.length) (chk ((0 : Int) ≤ ((way.getD k.toNat []).getD (0 : Nat) AV.gone).toI ∧
  ((way.getD k.toNat []).getD (0 : Nat) AV.gone).toI < (↑n2 : Int)) (chk ((0 : Nat) + ((way.getD k.toNat []).getD (0 : Nat) AV.gone).toI.toNat < done.length) (Q (Ex.nrm) ([AV.ptr (0 : Nat) (0 : Nat), AV.row nw [K.int IntKind.i64] way, AV.int IntKind.i64 len,
  AV.int IntKind.i64 (IntKind.i64.wrap (k + (1 : Int)))]) ([AObj.box
    [AV.int IntKind.i64 n, AV.int IntKind.i64 pi, AV.int IntKind.i64 e, AV.int IntKind.i64 g, AV.int IntKind.i64 fi,
      AV.row nl [K.int IntKind.i64] ps, AV.int IntKind.i64 kind, AV.int IntKind.i64 at_, AV.int IntKind.i64 fr,
      AV.int IntKind.i64 to_, AV.row nl1 [K.int IntKind.i64, K.int IntKind.i64, K.str] acts,
      AV.row nl2 [K.int IntKind.i64] ds, AV.int IntKind.i64 ro, AV.int IntKind.i64 sl, AV.int IntKind.i64 dir,
      AV.row nl4 [K.int IntKind.i64] sts, AV.row nl5 [K.int IntKind.i64] dvs, AV.sl (1 : Nat) (0 : Nat) n1,
      AV.sl (2 : Nat) (0 : Nat) n2],
  AObj.arr (2 : Nat) (53 : Nat) [K.str, K.str, K.str, K.int IntKind.i64]
    (sides.set ((0 : Nat) + ((way.getD k.toNat []).getD (0 : Nat) AV.gone).toI.toNat)
      (AV.str z103 ::
        AV.str z106 ::
          AV.str z113 ::
            AV.int IntKind.i64 (IntKind.i64.wrap (k + (1 : Int))) ::
              List.drop ((0 : Nat) + (4 : Nat))
                (sides.getD ((0 : Nat) + ((way.getD k.toNat []).getD (0 : Nat) AV.gone).toI.toNat) []))),
  AObj.arr (2 : Nat) (4 : Nat) [K.bool]
    (done.set ((0 : Nat) + ((way.getD k.toNat []).getD (0 : Nat) AV.gone).toI.toNat)
      (AV.bool true ::
        List.drop ((0 : Nat) + (1 : Nat))
          (done.getD ((0 : Nat) + ((way.getD k.toNat []).getD (0 : Nat) AV.gone).toI.toNat) [])))]))))))))))
    (((Hyp (z103.size ≤ (1000000000 : Nat))) ∧
    ((∀ (z113 : ByteArray),
    ((z113 = s_out (decide (sl ≥ n)) z103 z106) →
    chk ((0 : Int) ≤ ((way.getD k.toNat []).getD (0 : Nat) AV.gone).toI ∧
  ((way.getD k.toNat []).getD (0 : Nat) AV.gone).toI < (↑n1 : Int)) (chk ((0 : Nat) + ((way.getD k.toNat []).getD (0 : Nat) AV.gone).toI.toNat < sides.length) (chk ((0 : Int) ≤ ((way.getD k.toNat []).getD (0 : Nat) AV.gone).toI ∧
  ((way.getD k.toNat []).getD (0 : Nat) AV.gone).toI < (↑n2 : Int)) (chk ((0 : Nat) + ((way.getD k.toNat []).getD (0 : Nat) AV.gone).toI.toNat < done.length) (Q (Ex.nrm) ([AV.ptr (0 : Nat) (0 : Nat), AV.row nw [K.int IntKind.i64] way, AV.int IntKind.i64 len,
  AV.int IntKind.i64 (IntKind.i64.wrap (k + (1 : Int)))]) ([AObj.box
    [AV.int IntKind.i64 n, AV.int IntKind.i64 pi, AV.int IntKind.i64 e, AV.int IntKind.i64 g, AV.int IntKind.i64 fi,
      AV.row nl [K.int IntKind.i64] ps, AV.int IntKind.i64 kind, AV.int IntKind.i64 at_, AV.int IntKind.i64 fr,
      AV.int IntKind.i64 to_, AV.row nl1 [K.int IntKind.i64, K.int IntKind.i64, K.str] acts,
      AV.row nl2 [K.int IntKind.i64] ds, AV.int IntKind.i64 ro, AV.int IntKind.i64 sl, AV.int IntKind.i64 dir,
      AV.row nl4 [K.int IntKind.i64] sts, AV.row nl5 [K.int IntKind.i64] dvs, AV.sl (1 : Nat) (0 : Nat) n1,
      AV.sl (2 : Nat) (0 : Nat) n2],
  AObj.arr (2 : Nat) (53 : Nat) [K.str, K.str, K.str, K.int IntKind.i64]
    (sides.set ((0 : Nat) + ((way.getD k.toNat []).getD (0 : Nat) AV.gone).toI.toNat)
      (AV.str z103 ::
        AV.str z106 ::
          AV.str z113 ::
            AV.int IntKind.i64 (IntKind.i64.wrap (k + (1 : Int))) ::
              List.drop ((0 : Nat) + (4 : Nat))
                (sides.getD ((0 : Nat) + ((way.getD k.toNat []).getD (0 : Nat) AV.gone).toI.toNat) []))),
  AObj.arr (2 : Nat) (4 : Nat) [K.bool]
    (done.set ((0 : Nat) + ((way.getD k.toNat []).getD (0 : Nat) AV.gone).toI.toNat)
      (AV.bool true ::
        List.drop ((0 : Nat) + (1 : Nat))
          (done.getD ((0 : Nat) + ((way.getD k.toNat []).getD (0 : Nat) AV.gone).toI.toNat) [])))])))))))))))
   (chk ((0 : Int) ≤ ((way.getD k.toNat []).getD (0 : Nat) AV.gone).toI ∧
  ((way.getD k.toNat []).getD (0 : Nat) AV.gone).toI < (↑n1 : Int)) (chk ((0 : Nat) + ((way.getD k.toNat []).getD (0 : Nat) AV.gone).toI.toNat < sides.length) (chk ((0 : Int) ≤ ((way.getD k.toNat []).getD (0 : Nat) AV.gone).toI ∧
  ((way.getD k.toNat []).getD (0 : Nat) AV.gone).toI < (↑n2 : Int)) (chk ((0 : Nat) + ((way.getD k.toNat []).getD (0 : Nat) AV.gone).toI.toNat < done.length) (Q (Ex.nrm) ([AV.ptr (0 : Nat) (0 : Nat), AV.row nw [K.int IntKind.i64] way, AV.int IntKind.i64 len,
  AV.int IntKind.i64 (IntKind.i64.wrap (k + (1 : Int)))]) ([AObj.box
    [AV.int IntKind.i64 n, AV.int IntKind.i64 pi, AV.int IntKind.i64 e, AV.int IntKind.i64 g, AV.int IntKind.i64 fi,
      AV.row nl [K.int IntKind.i64] ps, AV.int IntKind.i64 kind, AV.int IntKind.i64 at_, AV.int IntKind.i64 fr,
      AV.int IntKind.i64 to_, AV.row nl1 [K.int IntKind.i64, K.int IntKind.i64, K.str] acts,
      AV.row nl2 [K.int IntKind.i64] ds, AV.int IntKind.i64 ro, AV.int IntKind.i64 sl, AV.int IntKind.i64 dir,
      AV.row nl4 [K.int IntKind.i64] sts, AV.row nl5 [K.int IntKind.i64] dvs, AV.sl (1 : Nat) (0 : Nat) n1,
      AV.sl (2 : Nat) (0 : Nat) n2],
  AObj.arr (2 : Nat) (53 : Nat) [K.str, K.str, K.str, K.int IntKind.i64]
    (sides.set ((0 : Nat) + ((way.getD k.toNat []).getD (0 : Nat) AV.gone).toI.toNat)
      (AV.str z103 ::
        AV.str z106 ::
          AV.str (ByteArray.mk #[]) ::
            AV.int IntKind.i64 (IntKind.i64.wrap (k + (1 : Int))) ::
              List.drop ((0 : Nat) + (4 : Nat))
                (sides.getD ((0 : Nat) + ((way.getD k.toNat []).getD (0 : Nat) AV.gone).toI.toNat) []))),
  AObj.arr (2 : Nat) (4 : Nat) [K.bool]
    (done.set ((0 : Nat) + ((way.getD k.toNat []).getD (0 : Nat) AV.gone).toI.toNat)
      (AV.bool true ::
        List.drop ((0 : Nat) + (1 : Nat))
          (done.getD ((0 : Nat) + ((way.getD k.toNat []).getD (0 : Nat) AV.gone).toI.toNat) [])))]))))))))))))))))))
 (Q (Ex.exit (2 : Nat)) ([AV.ptr (0 : Nat) (0 : Nat)]) ([AObj.box
    [AV.int IntKind.i64 n, AV.int IntKind.i64 pi, AV.int IntKind.i64 e, AV.int IntKind.i64 g, AV.int IntKind.i64 fi,
      AV.row nl [K.int IntKind.i64] ps, AV.int IntKind.i64 kind, AV.int IntKind.i64 at_, AV.int IntKind.i64 fr,
      AV.int IntKind.i64 to_, AV.row nl1 [K.int IntKind.i64, K.int IntKind.i64, K.str] acts,
      AV.row nl2 [K.int IntKind.i64] ds, AV.int IntKind.i64 ro, AV.int IntKind.i64 sl, AV.int IntKind.i64 dir,
      AV.row nl4 [K.int IntKind.i64] sts, AV.row nl5 [K.int IntKind.i64] dvs, AV.sl (1 : Nat) (0 : Nat) n1,
      AV.sl (2 : Nat) (0 : Nat) n2],
  AObj.arr (2 : Nat) (53 : Nat) [K.str, K.str, K.str, K.int IntKind.i64] sides,
  AObj.arr (2 : Nat) (4 : Nat) [K.bool] done]))) := by kernel_rfl
theorem nfRun1 (F : List AV → ByteArray) (n pi e g fi kind at_ fr to_ ro sl dir : Int) (nl nl1 nl2 nl3 nl4 nl5 : Bool) (ps acts ds sts dvs : List (List AV)) (s : ByteArray) (Q : AV × List AObj → Prop) : inlW Tryz.prog H0 (W5L F sOwn1 sWay) 6 (InO Tryz.prog H0 (W5L F sOwn1 sWay) 6 6) 27 [cf n pi e g fi nl ps, .agg [.int .i64 kind, .int .i64 at_, .int .i64 fr, .int .i64 to_, .row nl1 [.int .i64, .int .i64, .str] acts, .row nl2 [.int .i64] ds], .int .i64 ro, .int .i64 sl, .int .i64 dir, .row nl3 [.str] [[.str s]], .row nl4 [.int .i64] sts, .row nl5 [.int .i64] dvs] [] Q = (
((Hyp ((0 : Int) ≤ sl ∧ sl < n ∧ n ≤ (1000 : Int))) ∧
(((Hyp (s_confOk n pi e g fi (List.map (fun r => (r.getD (0 : Nat) AV.gone).toI) ps) = true)) ∧
(br ((↑sts.length : Int) != n)
 (chk (((0 : Int) ≤
    if (12 : Int) < if (0 : Int) > n then (0 : Int) else n then (12 : Int)
    else if (0 : Int) > n then (0 : Int) else n) ∧
  ((if (12 : Int) < if (0 : Int) > n then (0 : Int) else n then (12 : Int)
      else if (0 : Int) > n then (0 : Int) else n) ≤
      if (12 : Int) < if (0 : Int) > n then (0 : Int) else n then (12 : Int)
      else if (0 : Int) > n then (0 : Int) else n) ∧
    ((56 : Int) *
        if (12 : Int) < if (0 : Int) > n then (0 : Int) else n then (12 : Int)
        else if (0 : Int) > n then (0 : Int) else n) ≤
      (140737488355328 : Int)) (chk ((if (12 : Int) < if (0 : Int) > n then (0 : Int) else n then (12 : Int) else if (0 : Int) > n then (0 : Int) else n) ≤
  (9223372036854775807 : Int)) (chk ((0 : Nat) +
    (if (12 : Int) < if (0 : Int) > n then (0 : Int) else n then (12 : Int)
      else if (0 : Int) > n then (0 : Int) else n).toNat ≤
  (List.replicate
      (if (12 : Int) < if (0 : Int) > n then (0 : Int) else n then (12 : Int)
        else if (0 : Int) > n then (0 : Int) else n).toNat
      [AV.str (ByteArray.mk #[]), AV.str (ByteArray.mk #[]), AV.str (ByteArray.mk #[]), AV.int IntKind.i64 (0 : Int)]).length) (Q ((AV.row false [K.str, K.str, K.str, K.int IntKind.i64]
    (List.take
      (if (12 : Int) < if (0 : Int) > n then (0 : Int) else n then (12 : Int)
        else if (0 : Int) > n then (0 : Int) else n).toNat
      (List.drop (0 : Nat)
        (List.replicate
          (if (12 : Int) < if (0 : Int) > n then (0 : Int) else n then (12 : Int)
            else if (0 : Int) > n then (0 : Int) else n).toNat
          [AV.str (ByteArray.mk #[]), AV.str (ByteArray.mk #[]), AV.str (ByteArray.mk #[]), AV.int IntKind.i64 (0 : Int)]))),
  []))))))
 (br ((↑dvs.length : Int) != n)
  (chk (((0 : Int) ≤
    if (12 : Int) < if (0 : Int) > n then (0 : Int) else n then (12 : Int)
    else if (0 : Int) > n then (0 : Int) else n) ∧
  ((if (12 : Int) < if (0 : Int) > n then (0 : Int) else n then (12 : Int)
      else if (0 : Int) > n then (0 : Int) else n) ≤
      if (12 : Int) < if (0 : Int) > n then (0 : Int) else n then (12 : Int)
      else if (0 : Int) > n then (0 : Int) else n) ∧
    ((56 : Int) *
        if (12 : Int) < if (0 : Int) > n then (0 : Int) else n then (12 : Int)
        else if (0 : Int) > n then (0 : Int) else n) ≤
      (140737488355328 : Int)) (chk ((if (12 : Int) < if (0 : Int) > n then (0 : Int) else n then (12 : Int) else if (0 : Int) > n then (0 : Int) else n) ≤
  (9223372036854775807 : Int)) (chk ((0 : Nat) +
    (if (12 : Int) < if (0 : Int) > n then (0 : Int) else n then (12 : Int)
      else if (0 : Int) > n then (0 : Int) else n).toNat ≤
  (List.replicate
      (if (12 : Int) < if (0 : Int) > n then (0 : Int) else n then (12 : Int)
        else if (0 : Int) > n then (0 : Int) else n).toNat
      [AV.str (ByteArray.mk #[]), AV.str (ByteArray.mk #[]), AV.str (ByteArray.mk #[]), AV.int IntKind.i64 (0 : Int)]).length) (Q ((AV.row false [K.str, K.str, K.str, K.int IntKind.i64]
    (List.take
      (if (12 : Int) < if (0 : Int) > n then (0 : Int) else n then (12 : Int)
        else if (0 : Int) > n then (0 : Int) else n).toNat
      (List.drop (0 : Nat)
        (List.replicate
          (if (12 : Int) < if (0 : Int) > n then (0 : Int) else n then (12 : Int)
            else if (0 : Int) > n then (0 : Int) else n).toNat
          [AV.str (ByteArray.mk #[]), AV.str (ByteArray.mk #[]), AV.str (ByteArray.mk #[]), AV.int IntKind.i64 (0 : Int)]))),
  []))))))
  (chk ((0 : Int) ≤ n ∧ n ≤ n ∧ (56 : Int) * n ≤ (140737488355328 : Int)) (chk (n ≤ (9223372036854775807 : Int)) (chk ((0 : Int) ≤ n ∧ n ≤ n ∧ (1 : Int) * n ≤ (140737488355328 : Int)) (chk (n ≤ (9223372036854775807 : Int)) (chk ((0 : Int) ≤ sl ∧ sl < (↑n.toNat : Int)) (chk ((0 : Nat) + sl.toNat <
  (List.replicate n.toNat
      [AV.str (ByteArray.mk #[]), AV.str (ByteArray.mk #[]), AV.str (ByteArray.mk #[]), AV.int IntKind.i64 (0 : Int)]).length) (chk ((0 : Int) ≤ sl ∧ sl < (↑n.toNat : Int)) (chk ((0 : Nat) + sl.toNat < (List.replicate n.toNat [AV.bool false]).length) (((Hyp (false = false ∧ (6 : Int) ≤ n ∧ n ≤ (12 : Int) ∧ (0 : Int) ≤ sl ∧ sl < n ∧ (dir = (1 : Int) ∨ dir = (-1 : Int)))) ∧
  ((∀ (m113 : Nat),
  (∀ (rows114 : List (List AV)),
  (((↑m113 : Int) = n - (1 : Int) ∧ rows114 = s_wayL n sl dir m113) →
  ((Hyp (s_confOk n pi e g fi (List.map (fun r => (r.getD (0 : Nat) AV.gone).toI) ps) = true ∧
  s_actsB acts ∧
    (0 : Int) ≤ ro ∧
      ro ≤ (1000000 : Int) ∧
        (0 : Int) ≤ sl ∧
          sl ≤ (1000000 : Int) ∧
            (dir = (1 : Int) ∨ dir = (-1 : Int)) ∧
              (↑sts.length : Int) = n ∧
                (↑dvs.length : Int) = n ∧
                  n.toNat = n.toNat ∧
                    n.toNat = n.toNat ∧
                      (0 : Int) ≤ (0 : Int) ∧
                        (0 : Int) ≤ (↑rows114.length : Int) ∧
                          (↑rows114.length : Int) = (↑rows114.length : Int) ∧
                            rows114.length ≤ (12 : Nat) ∧
                              s_wayIn n rows114 ∧
                                ((List.replicate n.toNat
                                            [AV.str (ByteArray.mk #[]), AV.str (ByteArray.mk #[]), AV.str (ByteArray.mk #[]),
                                              AV.int IntKind.i64 (0 : Int)]).set
                                        ((0 : Nat) + sl.toNat)
                                        (setAll
                                          ((List.replicate n.toNat
                                                [AV.str (ByteArray.mk #[]), AV.str (ByteArray.mk #[]), AV.str (ByteArray.mk #[]),
                                                  AV.int IntKind.i64 (0 : Int)]).getD
                                            ((0 : Nat) + sl.toNat) [])
                                          (2 : Nat) [AV.str s])).length =
                                    n.toNat ∧
                                  ((List.replicate n.toNat [AV.bool false]).set ((0 : Nat) + sl.toNat)
                                          (AV.bool true ::
                                            List.drop ((0 : Nat) + (1 : Nat))
                                              ((List.replicate n.toNat [AV.bool false]).getD ((0 : Nat) + sl.toNat)
                                                []))).length =
                                      n.toNat ∧
                                    s_small
                                        ((List.replicate n.toNat
                                              [AV.str (ByteArray.mk #[]), AV.str (ByteArray.mk #[]), AV.str (ByteArray.mk #[]),
                                                AV.int IntKind.i64 (0 : Int)]).set
                                          ((0 : Nat) + sl.toNat)
                                          (setAll
                                            ((List.replicate n.toNat
                                                  [AV.str (ByteArray.mk #[]), AV.str (ByteArray.mk #[]),
                                                    AV.str (ByteArray.mk #[]), AV.int IntKind.i64 (0 : Int)]).getD
                                              ((0 : Nat) + sl.toNat) [])
                                            (2 : Nat) [AV.str s])) ∧
                                      s_rowsN
                                          ((List.replicate n.toNat
                                                [AV.str (ByteArray.mk #[]), AV.str (ByteArray.mk #[]), AV.str (ByteArray.mk #[]),
                                                  AV.int IntKind.i64 (0 : Int)]).set
                                            ((0 : Nat) + sl.toNat)
                                            (setAll
                                              ((List.replicate n.toNat
                                                    [AV.str (ByteArray.mk #[]), AV.str (ByteArray.mk #[]),
                                                      AV.str (ByteArray.mk #[]), AV.int IntKind.i64 (0 : Int)]).getD
                                                ((0 : Nat) + sl.toNat) [])
                                              (2 : Nat) [AV.str s]))
                                          (4 : Nat) ∧
                                        s_rowsN
                                          ((List.replicate n.toNat [AV.bool false]).set ((0 : Nat) + sl.toNat)
                                            (AV.bool true ::
                                              List.drop ((0 : Nat) + (1 : Nat))
                                                ((List.replicate n.toNat [AV.bool false]).getD ((0 : Nat) + sl.toNat)
                                                  [])))
                                          (1 : Nat))) ∧
  ((∀ (rows117 : List (List AV)),
  (∀ (rowd118 : List (List AV)),
  ((rows117 =
  s_gIterS
    { n := n, dir := dir, sl := sl, pi := pi, way := rows114, sts := sts, dvs := dvs,
      em := s_emF F n pi e g fi nl ps kind at_ fr to_ nl1 acts nl2 ds ro sl }
    ((List.replicate n.toNat
          [AV.str (ByteArray.mk #[]), AV.str (ByteArray.mk #[]), AV.str (ByteArray.mk #[]), AV.int IntKind.i64 (0 : Int)]).set
      ((0 : Nat) + sl.toNat)
      (setAll
        ((List.replicate n.toNat
              [AV.str (ByteArray.mk #[]), AV.str (ByteArray.mk #[]), AV.str (ByteArray.mk #[]),
                AV.int IntKind.i64 (0 : Int)]).getD
          ((0 : Nat) + sl.toNat) [])
        (2 : Nat) [AV.str s]))
    ((List.replicate n.toNat [AV.bool false]).set ((0 : Nat) + sl.toNat)
      (AV.bool true ::
        List.drop ((0 : Nat) + (1 : Nat)) ((List.replicate n.toNat [AV.bool false]).getD ((0 : Nat) + sl.toNat) [])))
    (0 : Nat) ((↑rows114.length : Int) - (0 : Int)).toNat) →
  chk ((0 : Nat) + n.toNat ≤ rows117.length) (chk (((0 : Nat) + (List.take n.toNat (List.drop (0 : Nat) rows117)).length) * (56 : Nat) ≤ (140737488355328 : Nat)) (chk ((0 : Nat) + (List.take n.toNat (List.drop (0 : Nat) rows117)).length ≤ (9223372036854775807 : Nat)) (chk ((0 : Nat) + ((0 : Nat) + (List.take n.toNat (List.drop (0 : Nat) rows117)).length) ≤
  ([] ++ List.take n.toNat (List.drop (0 : Nat) rows117)).length) (Q ((AV.row false [K.str, K.str, K.str, K.int IntKind.i64]
    (List.take ((0 : Nat) + (List.take n.toNat (List.drop (0 : Nat) rows117)).length)
      (List.drop (0 : Nat) ([] ++ List.take n.toNat (List.drop (0 : Nat) rows117)))),
  []))))))))))))))))))))))))))))))) := by kernel_rfl
theorem nfRun2 (F : List AV → ByteArray) (n pi e g fi kind at_ fr to_ ro sl dir : Int) (nl nl1 nl2 nl3 nl4 nl5 : Bool) (ps acts ds sts dvs : List (List AV)) (s s2 : ByteArray) (Q : AV × List AObj → Prop) : inlW Tryz.prog H0 (W5L F sOwn2 sWay2) 6 (InO Tryz.prog H0 (W5L F sOwn2 sWay2) 6 6) 27 [cf n pi e g fi nl ps, .agg [.int .i64 kind, .int .i64 at_, .int .i64 fr, .int .i64 to_, .row nl1 [.int .i64, .int .i64, .str] acts, .row nl2 [.int .i64] ds], .int .i64 ro, .int .i64 sl, .int .i64 dir, .row nl3 [.str] [[.str s], [.str s2]], .row nl4 [.int .i64] sts, .row nl5 [.int .i64] dvs] [] Q = (
((Hyp ((6 : Int) ≤ n ∧
  n ≤ (12 : Int) ∧
    n ≤ sl ∧
      sl < n + (↑ps.length : Int) ∧ ps.length ≤ (3 : Nat) ∧ (0 : Int) ≤ s_pair ps (sl - n) ∧ s_pair ps (sl - n) < n)) ∧
(((Hyp (s_confOk n pi e g fi (List.map (fun r => (r.getD (0 : Nat) AV.gone).toI) ps) = true)) ∧
(br ((↑sts.length : Int) != n)
 (chk (((0 : Int) ≤
    if (12 : Int) < if (0 : Int) > n then (0 : Int) else n then (12 : Int)
    else if (0 : Int) > n then (0 : Int) else n) ∧
  ((if (12 : Int) < if (0 : Int) > n then (0 : Int) else n then (12 : Int)
      else if (0 : Int) > n then (0 : Int) else n) ≤
      if (12 : Int) < if (0 : Int) > n then (0 : Int) else n then (12 : Int)
      else if (0 : Int) > n then (0 : Int) else n) ∧
    ((56 : Int) *
        if (12 : Int) < if (0 : Int) > n then (0 : Int) else n then (12 : Int)
        else if (0 : Int) > n then (0 : Int) else n) ≤
      (140737488355328 : Int)) (chk ((if (12 : Int) < if (0 : Int) > n then (0 : Int) else n then (12 : Int) else if (0 : Int) > n then (0 : Int) else n) ≤
  (9223372036854775807 : Int)) (chk ((0 : Nat) +
    (if (12 : Int) < if (0 : Int) > n then (0 : Int) else n then (12 : Int)
      else if (0 : Int) > n then (0 : Int) else n).toNat ≤
  (List.replicate
      (if (12 : Int) < if (0 : Int) > n then (0 : Int) else n then (12 : Int)
        else if (0 : Int) > n then (0 : Int) else n).toNat
      [AV.str (ByteArray.mk #[]), AV.str (ByteArray.mk #[]), AV.str (ByteArray.mk #[]), AV.int IntKind.i64 (0 : Int)]).length) (Q ((AV.row false [K.str, K.str, K.str, K.int IntKind.i64]
    (List.take
      (if (12 : Int) < if (0 : Int) > n then (0 : Int) else n then (12 : Int)
        else if (0 : Int) > n then (0 : Int) else n).toNat
      (List.drop (0 : Nat)
        (List.replicate
          (if (12 : Int) < if (0 : Int) > n then (0 : Int) else n then (12 : Int)
            else if (0 : Int) > n then (0 : Int) else n).toNat
          [AV.str (ByteArray.mk #[]), AV.str (ByteArray.mk #[]), AV.str (ByteArray.mk #[]), AV.int IntKind.i64 (0 : Int)]))),
  []))))))
 (br ((↑dvs.length : Int) != n)
  (chk (((0 : Int) ≤
    if (12 : Int) < if (0 : Int) > n then (0 : Int) else n then (12 : Int)
    else if (0 : Int) > n then (0 : Int) else n) ∧
  ((if (12 : Int) < if (0 : Int) > n then (0 : Int) else n then (12 : Int)
      else if (0 : Int) > n then (0 : Int) else n) ≤
      if (12 : Int) < if (0 : Int) > n then (0 : Int) else n then (12 : Int)
      else if (0 : Int) > n then (0 : Int) else n) ∧
    ((56 : Int) *
        if (12 : Int) < if (0 : Int) > n then (0 : Int) else n then (12 : Int)
        else if (0 : Int) > n then (0 : Int) else n) ≤
      (140737488355328 : Int)) (chk ((if (12 : Int) < if (0 : Int) > n then (0 : Int) else n then (12 : Int) else if (0 : Int) > n then (0 : Int) else n) ≤
  (9223372036854775807 : Int)) (chk ((0 : Nat) +
    (if (12 : Int) < if (0 : Int) > n then (0 : Int) else n then (12 : Int)
      else if (0 : Int) > n then (0 : Int) else n).toNat ≤
  (List.replicate
      (if (12 : Int) < if (0 : Int) > n then (0 : Int) else n then (12 : Int)
        else if (0 : Int) > n then (0 : Int) else n).toNat
      [AV.str (ByteArray.mk #[]), AV.str (ByteArray.mk #[]), AV.str (ByteArray.mk #[]), AV.int IntKind.i64 (0 : Int)]).length) (Q ((AV.row false [K.str, K.str, K.str, K.int IntKind.i64]
    (List.take
      (if (12 : Int) < if (0 : Int) > n then (0 : Int) else n then (12 : Int)
        else if (0 : Int) > n then (0 : Int) else n).toNat
      (List.drop (0 : Nat)
        (List.replicate
          (if (12 : Int) < if (0 : Int) > n then (0 : Int) else n then (12 : Int)
            else if (0 : Int) > n then (0 : Int) else n).toNat
          [AV.str (ByteArray.mk #[]), AV.str (ByteArray.mk #[]), AV.str (ByteArray.mk #[]), AV.int IntKind.i64 (0 : Int)]))),
  []))))))
  (chk ((0 : Int) ≤ n ∧ n ≤ n ∧ (56 : Int) * n ≤ (140737488355328 : Int)) (chk (n ≤ (9223372036854775807 : Int)) (chk ((0 : Int) ≤ n ∧ n ≤ n ∧ (1 : Int) * n ≤ (140737488355328 : Int)) (chk (n ≤ (9223372036854775807 : Int)) (chk ((0 : Int) ≤ s_pair ps (sl - n) ∧ s_pair ps (sl - n) < (↑n.toNat : Int)) (chk ((0 : Nat) + (s_pair ps (sl - n)).toNat <
  (List.replicate n.toNat
      [AV.str (ByteArray.mk #[]), AV.str (ByteArray.mk #[]), AV.str (ByteArray.mk #[]), AV.int IntKind.i64 (0 : Int)]).length) (chk ((0 : Int) ≤ s_pair ps (sl - n) ∧ s_pair ps (sl - n) < (↑n.toNat : Int)) (chk ((0 : Nat) + (s_pair ps (sl - n)).toNat < (List.replicate n.toNat [AV.bool false]).length) (chk ((0 : Int) ≤ s_rem (s_pair ps (sl - n) + (1 : Int)) n ∧ s_rem (s_pair ps (sl - n) + (1 : Int)) n < (↑n.toNat : Int)) (chk ((0 : Nat) + (s_rem (s_pair ps (sl - n) + (1 : Int)) n).toNat <
  ((List.replicate n.toNat
          [AV.str (ByteArray.mk #[]), AV.str (ByteArray.mk #[]), AV.str (ByteArray.mk #[]), AV.int IntKind.i64 (0 : Int)]).set
      ((0 : Nat) + (s_pair ps (sl - n)).toNat)
      (setAll
        ((List.replicate n.toNat
              [AV.str (ByteArray.mk #[]), AV.str (ByteArray.mk #[]), AV.str (ByteArray.mk #[]),
                AV.int IntKind.i64 (0 : Int)]).getD
          ((0 : Nat) + (s_pair ps (sl - n)).toNat) [])
        (2 : Nat) [AV.str s])).length) (chk ((0 : Int) ≤ s_rem (s_pair ps (sl - n) + (1 : Int)) n ∧ s_rem (s_pair ps (sl - n) + (1 : Int)) n < (↑n.toNat : Int)) (chk ((0 : Nat) + (s_rem (s_pair ps (sl - n) + (1 : Int)) n).toNat <
  ((List.replicate n.toNat [AV.bool false]).set ((0 : Nat) + (s_pair ps (sl - n)).toNat)
      (AV.bool true ::
        List.drop ((0 : Nat) + (1 : Nat))
          ((List.replicate n.toNat [AV.bool false]).getD ((0 : Nat) + (s_pair ps (sl - n)).toNat) []))).length) (((Hyp (false = false ∧
  (6 : Int) ≤ n ∧
    n ≤ (12 : Int) ∧
      (0 : Int) ≤ s_pair ps (sl - n) ∧
        s_pair ps (sl - n) < n ∧
          s_rem (s_pair ps (sl - n) + (1 : Int)) n = s_rem (s_pair ps (sl - n) + (1 : Int)) n ∧
            (dir = (1 : Int) ∨ dir = (-1 : Int)))) ∧
  ((∀ (m117 : Nat),
  (∀ (rows118 : List (List AV)),
  (((↑m117 : Int) = n - (2 : Int) ∧ rows118 = s_wayL n (s_last n (s_pair ps (sl - n)) dir) dir m117) →
  ((Hyp (s_confOk n pi e g fi (List.map (fun r => (r.getD (0 : Nat) AV.gone).toI) ps) = true ∧
  s_actsB acts ∧
    (0 : Int) ≤ ro ∧
      ro ≤ (1000000 : Int) ∧
        (0 : Int) ≤ sl ∧
          sl ≤ (1000000 : Int) ∧
            (dir = (1 : Int) ∨ dir = (-1 : Int)) ∧
              (↑sts.length : Int) = n ∧
                (↑dvs.length : Int) = n ∧
                  n.toNat = n.toNat ∧
                    n.toNat = n.toNat ∧
                      (0 : Int) ≤ (0 : Int) ∧
                        (0 : Int) ≤ (↑rows118.length : Int) ∧
                          (↑rows118.length : Int) = (↑rows118.length : Int) ∧
                            rows118.length ≤ (12 : Nat) ∧
                              s_wayIn n rows118 ∧
                                (((List.replicate n.toNat
                                                [AV.str (ByteArray.mk #[]), AV.str (ByteArray.mk #[]), AV.str (ByteArray.mk #[]),
                                                  AV.int IntKind.i64 (0 : Int)]).set
                                            ((0 : Nat) + (s_pair ps (sl - n)).toNat)
                                            (setAll
                                              ((List.replicate n.toNat
                                                    [AV.str (ByteArray.mk #[]), AV.str (ByteArray.mk #[]),
                                                      AV.str (ByteArray.mk #[]), AV.int IntKind.i64 (0 : Int)]).getD
                                                ((0 : Nat) + (s_pair ps (sl - n)).toNat) [])
                                              (2 : Nat) [AV.str s])).set
                                        ((0 : Nat) + (s_rem (s_pair ps (sl - n) + (1 : Int)) n).toNat)
                                        (setAll
                                          (((List.replicate n.toNat
                                                    [AV.str (ByteArray.mk #[]), AV.str (ByteArray.mk #[]),
                                                      AV.str (ByteArray.mk #[]), AV.int IntKind.i64 (0 : Int)]).set
                                                ((0 : Nat) + (s_pair ps (sl - n)).toNat)
                                                (setAll
                                                  ((List.replicate n.toNat
                                                        [AV.str (ByteArray.mk #[]), AV.str (ByteArray.mk #[]),
                                                          AV.str (ByteArray.mk #[]), AV.int IntKind.i64 (0 : Int)]).getD
                                                    ((0 : Nat) + (s_pair ps (sl - n)).toNat) [])
                                                  (2 : Nat) [AV.str s])).getD
                                            ((0 : Nat) + (s_rem (s_pair ps (sl - n) + (1 : Int)) n).toNat) [])
                                          (2 : Nat) [AV.str s2])).length =
                                    n.toNat ∧
                                  (((List.replicate n.toNat [AV.bool false]).set
                                              ((0 : Nat) + (s_pair ps (sl - n)).toNat)
                                              (AV.bool true ::
                                                List.drop ((0 : Nat) + (1 : Nat))
                                                  ((List.replicate n.toNat [AV.bool false]).getD
                                                    ((0 : Nat) + (s_pair ps (sl - n)).toNat) []))).set
                                          ((0 : Nat) + (s_rem (s_pair ps (sl - n) + (1 : Int)) n).toNat)
                                          (AV.bool true ::
                                            List.drop ((0 : Nat) + (1 : Nat))
                                              (((List.replicate n.toNat [AV.bool false]).set
                                                    ((0 : Nat) + (s_pair ps (sl - n)).toNat)
                                                    (AV.bool true ::
                                                      List.drop ((0 : Nat) + (1 : Nat))
                                                        ((List.replicate n.toNat [AV.bool false]).getD
                                                          ((0 : Nat) + (s_pair ps (sl - n)).toNat) []))).getD
                                                ((0 : Nat) + (s_rem (s_pair ps (sl - n) + (1 : Int)) n).toNat)
                                                []))).length =
                                      n.toNat ∧
                                    s_small
                                        (((List.replicate n.toNat
                                                  [AV.str (ByteArray.mk #[]), AV.str (ByteArray.mk #[]),
                                                    AV.str (ByteArray.mk #[]), AV.int IntKind.i64 (0 : Int)]).set
                                              ((0 : Nat) + (s_pair ps (sl - n)).toNat)
                                              (setAll
                                                ((List.replicate n.toNat
                                                      [AV.str (ByteArray.mk #[]), AV.str (ByteArray.mk #[]),
                                                        AV.str (ByteArray.mk #[]), AV.int IntKind.i64 (0 : Int)]).getD
                                                  ((0 : Nat) + (s_pair ps (sl - n)).toNat) [])
                                                (2 : Nat) [AV.str s])).set
                                          ((0 : Nat) + (s_rem (s_pair ps (sl - n) + (1 : Int)) n).toNat)
                                          (setAll
                                            (((List.replicate n.toNat
                                                      [AV.str (ByteArray.mk #[]), AV.str (ByteArray.mk #[]),
                                                        AV.str (ByteArray.mk #[]), AV.int IntKind.i64 (0 : Int)]).set
                                                  ((0 : Nat) + (s_pair ps (sl - n)).toNat)
                                                  (setAll
                                                    ((List.replicate n.toNat
                                                          [AV.str (ByteArray.mk #[]), AV.str (ByteArray.mk #[]),
                                                            AV.str (ByteArray.mk #[]), AV.int IntKind.i64 (0 : Int)]).getD
                                                      ((0 : Nat) + (s_pair ps (sl - n)).toNat) [])
                                                    (2 : Nat) [AV.str s])).getD
                                              ((0 : Nat) + (s_rem (s_pair ps (sl - n) + (1 : Int)) n).toNat) [])
                                            (2 : Nat) [AV.str s2])) ∧
                                      s_rowsN
                                          (((List.replicate n.toNat
                                                    [AV.str (ByteArray.mk #[]), AV.str (ByteArray.mk #[]),
                                                      AV.str (ByteArray.mk #[]), AV.int IntKind.i64 (0 : Int)]).set
                                                ((0 : Nat) + (s_pair ps (sl - n)).toNat)
                                                (setAll
                                                  ((List.replicate n.toNat
                                                        [AV.str (ByteArray.mk #[]), AV.str (ByteArray.mk #[]),
                                                          AV.str (ByteArray.mk #[]), AV.int IntKind.i64 (0 : Int)]).getD
                                                    ((0 : Nat) + (s_pair ps (sl - n)).toNat) [])
                                                  (2 : Nat) [AV.str s])).set
                                            ((0 : Nat) + (s_rem (s_pair ps (sl - n) + (1 : Int)) n).toNat)
                                            (setAll
                                              (((List.replicate n.toNat
                                                        [AV.str (ByteArray.mk #[]), AV.str (ByteArray.mk #[]),
                                                          AV.str (ByteArray.mk #[]), AV.int IntKind.i64 (0 : Int)]).set
                                                    ((0 : Nat) + (s_pair ps (sl - n)).toNat)
                                                    (setAll
                                                      ((List.replicate n.toNat
                                                            [AV.str (ByteArray.mk #[]), AV.str (ByteArray.mk #[]),
                                                              AV.str (ByteArray.mk #[]),
                                                              AV.int IntKind.i64 (0 : Int)]).getD
                                                        ((0 : Nat) + (s_pair ps (sl - n)).toNat) [])
                                                      (2 : Nat) [AV.str s])).getD
                                                ((0 : Nat) + (s_rem (s_pair ps (sl - n) + (1 : Int)) n).toNat) [])
                                              (2 : Nat) [AV.str s2]))
                                          (4 : Nat) ∧
                                        s_rowsN
                                          (((List.replicate n.toNat [AV.bool false]).set
                                                ((0 : Nat) + (s_pair ps (sl - n)).toNat)
                                                (AV.bool true ::
                                                  List.drop ((0 : Nat) + (1 : Nat))
                                                    ((List.replicate n.toNat [AV.bool false]).getD
                                                      ((0 : Nat) + (s_pair ps (sl - n)).toNat) []))).set
                                            ((0 : Nat) + (s_rem (s_pair ps (sl - n) + (1 : Int)) n).toNat)
                                            (AV.bool true ::
                                              List.drop ((0 : Nat) + (1 : Nat))
                                                (((List.replicate n.toNat [AV.bool false]).set
                                                      ((0 : Nat) + (s_pair ps (sl - n)).toNat)
                                                      (AV.bool true ::
                                                        List.drop ((0 : Nat) + (1 : Nat))
                                                          ((List.replicate n.toNat [AV.bool false]).getD
                                                            ((0 : Nat) + (s_pair ps (sl - n)).toNat) []))).getD
                                                  ((0 : Nat) + (s_rem (s_pair ps (sl - n) + (1 : Int)) n).toNat) [])))
                                          (1 : Nat))) ∧
  ((∀ (rows121 : List (List AV)),
  (∀ (rowd122 : List (List AV)),
  ((rows121 =
  s_gIterS
    { n := n, dir := dir, sl := sl, pi := pi, way := rows118, sts := sts, dvs := dvs,
      em := s_emF F n pi e g fi nl ps kind at_ fr to_ nl1 acts nl2 ds ro sl }
    (((List.replicate n.toNat
              [AV.str (ByteArray.mk #[]), AV.str (ByteArray.mk #[]), AV.str (ByteArray.mk #[]),
                AV.int IntKind.i64 (0 : Int)]).set
          ((0 : Nat) + (s_pair ps (sl - n)).toNat)
          (setAll
            ((List.replicate n.toNat
                  [AV.str (ByteArray.mk #[]), AV.str (ByteArray.mk #[]), AV.str (ByteArray.mk #[]),
                    AV.int IntKind.i64 (0 : Int)]).getD
              ((0 : Nat) + (s_pair ps (sl - n)).toNat) [])
            (2 : Nat) [AV.str s])).set
      ((0 : Nat) + (s_rem (s_pair ps (sl - n) + (1 : Int)) n).toNat)
      (setAll
        (((List.replicate n.toNat
                  [AV.str (ByteArray.mk #[]), AV.str (ByteArray.mk #[]), AV.str (ByteArray.mk #[]),
                    AV.int IntKind.i64 (0 : Int)]).set
              ((0 : Nat) + (s_pair ps (sl - n)).toNat)
              (setAll
                ((List.replicate n.toNat
                      [AV.str (ByteArray.mk #[]), AV.str (ByteArray.mk #[]), AV.str (ByteArray.mk #[]),
                        AV.int IntKind.i64 (0 : Int)]).getD
                  ((0 : Nat) + (s_pair ps (sl - n)).toNat) [])
                (2 : Nat) [AV.str s])).getD
          ((0 : Nat) + (s_rem (s_pair ps (sl - n) + (1 : Int)) n).toNat) [])
        (2 : Nat) [AV.str s2]))
    (((List.replicate n.toNat [AV.bool false]).set ((0 : Nat) + (s_pair ps (sl - n)).toNat)
          (AV.bool true ::
            List.drop ((0 : Nat) + (1 : Nat))
              ((List.replicate n.toNat [AV.bool false]).getD ((0 : Nat) + (s_pair ps (sl - n)).toNat) []))).set
      ((0 : Nat) + (s_rem (s_pair ps (sl - n) + (1 : Int)) n).toNat)
      (AV.bool true ::
        List.drop ((0 : Nat) + (1 : Nat))
          (((List.replicate n.toNat [AV.bool false]).set ((0 : Nat) + (s_pair ps (sl - n)).toNat)
                (AV.bool true ::
                  List.drop ((0 : Nat) + (1 : Nat))
                    ((List.replicate n.toNat [AV.bool false]).getD ((0 : Nat) + (s_pair ps (sl - n)).toNat) []))).getD
            ((0 : Nat) + (s_rem (s_pair ps (sl - n) + (1 : Int)) n).toNat) [])))
    (0 : Nat) ((↑rows118.length : Int) - (0 : Int)).toNat) →
  chk ((0 : Nat) + n.toNat ≤ rows121.length) (chk (((0 : Nat) + (List.take n.toNat (List.drop (0 : Nat) rows121)).length) * (56 : Nat) ≤ (140737488355328 : Nat)) (chk ((0 : Nat) + (List.take n.toNat (List.drop (0 : Nat) rows121)).length ≤ (9223372036854775807 : Nat)) (chk ((0 : Nat) + ((0 : Nat) + (List.take n.toNat (List.drop (0 : Nat) rows121)).length) ≤
  ([] ++ List.take n.toNat (List.drop (0 : Nat) rows121)).length) (Q ((AV.row false [K.str, K.str, K.str, K.int IntKind.i64]
    (List.take ((0 : Nat) + (List.take n.toNat (List.drop (0 : Nat) rows121)).length)
      (List.drop (0 : Nat) ([] ++ List.take n.toNat (List.drop (0 : Nat) rows121)))),
  []))))))))))))))))))))))))))))))))))) := by kernel_rfl
theorem nfRun0 (F : List AV → ByteArray) (n pi e g fi kind at_ fr to_ ro sl dir : Int) (nl nl1 nl2 nl3 nl4 nl5 : Bool) (ps acts ds sts dvs : List (List AV)) (Q : AV × List AObj → Prop) : inlW Tryz.prog H0 (W5L F sOwn0 sWay0) 6 (InO Tryz.prog H0 (W5L F sOwn0 sWay0) 6 6) 27 [cf n pi e g fi nl ps, .agg [.int .i64 kind, .int .i64 at_, .int .i64 fr, .int .i64 to_, .row nl1 [.int .i64, .int .i64, .str] acts, .row nl2 [.int .i64] ds], .int .i64 ro, .int .i64 sl, .int .i64 dir, .row nl3 [.str] [], .row nl4 [.int .i64] sts, .row nl5 [.int .i64] dvs] [] Q = (
((Hyp ((6 : Int) ≤ n ∧
  n ≤ (12 : Int) ∧ n ≤ sl ∧ sl < n + (↑ps.length : Int) ∧ ps.length ≤ (3 : Nat) ∧ s_pair ps (sl - n) = (-1 : Int))) ∧
(((Hyp (s_confOk n pi e g fi (List.map (fun r => (r.getD (0 : Nat) AV.gone).toI) ps) = true)) ∧
(br ((↑sts.length : Int) != n)
 (chk (((0 : Int) ≤
    if (12 : Int) < if (0 : Int) > n then (0 : Int) else n then (12 : Int)
    else if (0 : Int) > n then (0 : Int) else n) ∧
  ((if (12 : Int) < if (0 : Int) > n then (0 : Int) else n then (12 : Int)
      else if (0 : Int) > n then (0 : Int) else n) ≤
      if (12 : Int) < if (0 : Int) > n then (0 : Int) else n then (12 : Int)
      else if (0 : Int) > n then (0 : Int) else n) ∧
    ((56 : Int) *
        if (12 : Int) < if (0 : Int) > n then (0 : Int) else n then (12 : Int)
        else if (0 : Int) > n then (0 : Int) else n) ≤
      (140737488355328 : Int)) (chk ((if (12 : Int) < if (0 : Int) > n then (0 : Int) else n then (12 : Int) else if (0 : Int) > n then (0 : Int) else n) ≤
  (9223372036854775807 : Int)) (chk ((0 : Nat) +
    (if (12 : Int) < if (0 : Int) > n then (0 : Int) else n then (12 : Int)
      else if (0 : Int) > n then (0 : Int) else n).toNat ≤
  (List.replicate
      (if (12 : Int) < if (0 : Int) > n then (0 : Int) else n then (12 : Int)
        else if (0 : Int) > n then (0 : Int) else n).toNat
      [AV.str (ByteArray.mk #[]), AV.str (ByteArray.mk #[]), AV.str (ByteArray.mk #[]), AV.int IntKind.i64 (0 : Int)]).length) (Q ((AV.row false [K.str, K.str, K.str, K.int IntKind.i64]
    (List.take
      (if (12 : Int) < if (0 : Int) > n then (0 : Int) else n then (12 : Int)
        else if (0 : Int) > n then (0 : Int) else n).toNat
      (List.drop (0 : Nat)
        (List.replicate
          (if (12 : Int) < if (0 : Int) > n then (0 : Int) else n then (12 : Int)
            else if (0 : Int) > n then (0 : Int) else n).toNat
          [AV.str (ByteArray.mk #[]), AV.str (ByteArray.mk #[]), AV.str (ByteArray.mk #[]), AV.int IntKind.i64 (0 : Int)]))),
  []))))))
 (br ((↑dvs.length : Int) != n)
  (chk (((0 : Int) ≤
    if (12 : Int) < if (0 : Int) > n then (0 : Int) else n then (12 : Int)
    else if (0 : Int) > n then (0 : Int) else n) ∧
  ((if (12 : Int) < if (0 : Int) > n then (0 : Int) else n then (12 : Int)
      else if (0 : Int) > n then (0 : Int) else n) ≤
      if (12 : Int) < if (0 : Int) > n then (0 : Int) else n then (12 : Int)
      else if (0 : Int) > n then (0 : Int) else n) ∧
    ((56 : Int) *
        if (12 : Int) < if (0 : Int) > n then (0 : Int) else n then (12 : Int)
        else if (0 : Int) > n then (0 : Int) else n) ≤
      (140737488355328 : Int)) (chk ((if (12 : Int) < if (0 : Int) > n then (0 : Int) else n then (12 : Int) else if (0 : Int) > n then (0 : Int) else n) ≤
  (9223372036854775807 : Int)) (chk ((0 : Nat) +
    (if (12 : Int) < if (0 : Int) > n then (0 : Int) else n then (12 : Int)
      else if (0 : Int) > n then (0 : Int) else n).toNat ≤
  (List.replicate
      (if (12 : Int) < if (0 : Int) > n then (0 : Int) else n then (12 : Int)
        else if (0 : Int) > n then (0 : Int) else n).toNat
      [AV.str (ByteArray.mk #[]), AV.str (ByteArray.mk #[]), AV.str (ByteArray.mk #[]), AV.int IntKind.i64 (0 : Int)]).length) (Q ((AV.row false [K.str, K.str, K.str, K.int IntKind.i64]
    (List.take
      (if (12 : Int) < if (0 : Int) > n then (0 : Int) else n then (12 : Int)
        else if (0 : Int) > n then (0 : Int) else n).toNat
      (List.drop (0 : Nat)
        (List.replicate
          (if (12 : Int) < if (0 : Int) > n then (0 : Int) else n then (12 : Int)
            else if (0 : Int) > n then (0 : Int) else n).toNat
          [AV.str (ByteArray.mk #[]), AV.str (ByteArray.mk #[]), AV.str (ByteArray.mk #[]), AV.int IntKind.i64 (0 : Int)]))),
  []))))))
  (chk ((0 : Int) ≤ n ∧ n ≤ n ∧ (56 : Int) * n ≤ (140737488355328 : Int)) (chk (n ≤ (9223372036854775807 : Int)) (chk ((0 : Int) ≤ n ∧ n ≤ n ∧ (1 : Int) * n ≤ (140737488355328 : Int)) (chk (n ≤ (9223372036854775807 : Int)) (((Hyp (s_confOk n pi e g fi (List.map (fun r => (r.getD (0 : Nat) AV.gone).toI) ps) = true ∧
  s_actsB acts ∧
    (0 : Int) ≤ ro ∧
      ro ≤ (1000000 : Int) ∧
        (0 : Int) ≤ sl ∧
          sl ≤ (1000000 : Int) ∧
            (dir = (1 : Int) ∨ dir = (-1 : Int)) ∧
              (↑sts.length : Int) = n ∧
                (↑dvs.length : Int) = n ∧
                  n.toNat = n.toNat ∧
                    n.toNat = n.toNat ∧
                      (0 : Int) ≤ (0 : Int) ∧
                        (0 : Int) ≤ (0 : Int) ∧
                          (0 : Int) = (0 : Int) ∧
                            (0 : Nat) ≤ (12 : Nat) ∧
                              s_wayIn n [] ∧
                                (List.replicate n.toNat
                                        [AV.str (ByteArray.mk #[]), AV.str (ByteArray.mk #[]), AV.str (ByteArray.mk #[]),
                                          AV.int IntKind.i64 (0 : Int)]).length =
                                    n.toNat ∧
                                  (List.replicate n.toNat [AV.bool false]).length = n.toNat ∧
                                    s_small
                                        (List.replicate n.toNat
                                          [AV.str (ByteArray.mk #[]), AV.str (ByteArray.mk #[]), AV.str (ByteArray.mk #[]),
                                            AV.int IntKind.i64 (0 : Int)]) ∧
                                      s_rowsN
                                          (List.replicate n.toNat
                                            [AV.str (ByteArray.mk #[]), AV.str (ByteArray.mk #[]), AV.str (ByteArray.mk #[]),
                                              AV.int IntKind.i64 (0 : Int)])
                                          (4 : Nat) ∧
                                        s_rowsN (List.replicate n.toNat [AV.bool false]) (1 : Nat))) ∧
  ((∀ (rows109 : List (List AV)),
  (∀ (rowd110 : List (List AV)),
  ((rows109 =
  s_gIterS
    { n := n, dir := dir, sl := sl, pi := pi, way := [], sts := sts, dvs := dvs,
      em := s_emF F n pi e g fi nl ps kind at_ fr to_ nl1 acts nl2 ds ro sl }
    (List.replicate n.toNat
      [AV.str (ByteArray.mk #[]), AV.str (ByteArray.mk #[]), AV.str (ByteArray.mk #[]), AV.int IntKind.i64 (0 : Int)])
    (List.replicate n.toNat [AV.bool false]) (0 : Nat) (0 : Nat)) →
  chk ((0 : Nat) + n.toNat ≤ rows109.length) (chk (((0 : Nat) + (List.take n.toNat (List.drop (0 : Nat) rows109)).length) * (56 : Nat) ≤ (140737488355328 : Nat)) (chk ((0 : Nat) + (List.take n.toNat (List.drop (0 : Nat) rows109)).length ≤ (9223372036854775807 : Nat)) (chk ((0 : Nat) + ((0 : Nat) + (List.take n.toNat (List.drop (0 : Nat) rows109)).length) ≤
  ([] ++ List.take n.toNat (List.drop (0 : Nat) rows109)).length) (Q ((AV.row false [K.str, K.str, K.str, K.int IntKind.i64]
    (List.take ((0 : Nat) + (List.take n.toNat (List.drop (0 : Nat) rows109)).length)
      (List.drop (0 : Nat) ([] ++ List.take n.toNat (List.drop (0 : Nat) rows109)))),
  [])))))))))))))))))))))) := by kernel_rfl
end Go.Proofs.YtiemjcchlfbglaaGreatE
/- spread.Run in general: the specs hold. -/
namespace Go.Proofs.YtiemjcchlfbglaaGreatE
open Go
set_option linter.unusedVariables false
set_option linter.unusedSimpArgs false
set_option maxRecDepth 100000

section
variable {F : List AV → ByteArray}
theorem em_of (hF : s_emOk F) {n pi e g fi : Int} {nl : Bool} {ps : List (List AV)} {kind at_ fr to_ : Int} {nl1 : Bool} {acts : List (List AV)} {nl2 : Bool} {ds : List (List AV)} {ro sl fm dst : Int} {base : ByteArray} (hd : s_dom n pi e g fi ps acts ro sl dst base) :
    s_emitR (s_hit n kind at_ fm dst) fr to_ ro base (s_emF F n pi e g fi nl ps kind at_ fr to_ nl1 acts nl2 ds ro sl fm dst base) :=
  hF n pi e g fi nl ps kind at_ fr to_ nl1 acts (.row nl2 [.int .i64] ds) ro sl fm dst base rfl hd
/-- What is emitted is small. -/
def s_emS (P : RG) : Prop := ∀ (fm dst : Int) (base : ByteArray), 0 ≤ dst → dst ≤ 1000000 → base.size ≤ 1000000 → (P.em fm dst base).size ≤ 1000000
theorem gCome_le {P : RG} (hE : s_emS P) {sides done : List (List AV)} (hs : s_small sides) {node : Int} (h1 : 0 ≤ node) (h2 : node ≤ 1000000) (back : Int) : (s_gCome P sides done node back).size ≤ 1000000 := by
  unfold s_gCome
  split
  · exact Nat.le_trans (clean_le _) (hE _ _ _ h1 h2 (hs _))
  · exact Nat.zero_le _
theorem gDir_le {P : RG} (hE : s_emS P) {sides done : List (List AV)} (hs : s_small sides) {k : Nat} (h1 : 0 ≤ s_nd P k) (h2 : s_nd P k ≤ 1000000) : (s_gDir P sides done k).size ≤ 1000000 := by
  unfold s_gDir
  split
  · exact guard_le (gCome_le hE hs h1 h2 _)
  · exact gCome_le hE hs h1 h2 _
theorem okW4 (hE : OkS Tryz.prog H0 72 (sEmitF F)) : OkSp Tryz.prog H0 (W4 F) := ⟨⟨hE, okGuard, okU2.fn⟩, trivial⟩
theorem okComeG (hF : s_emOk F) (hE : OkS Tryz.prog H0 72 (sEmitF F)) : OkS Tryz.prog H0 63 (sComeG F) := by
  intro args h Q hq
  unfold sComeG at hq
  split at hq
  · rename_i node back n pi e g fi nl ps kind at_ fr to_ nl1 acts nl2 ds ro sl dir nl4 sts nl5 dvs n1 n2 sides done
    obtain ⟨⟨hc, ha, h1, h2, h3, h4, hd, h5, h6, hb, e1, e2, l1, l2, hs⟩, hq⟩ := hyp_iff.1 hq
    subst e1; subst e2
    obtain ⟨hn1, hn2⟩ := confOk_n hc
    refine in_ok (S := W4 F) (U := 6) (k := 6) (okW4 hE) (to (nfComeG ..) ?_)
    have w : IntKind.i64.wrap (IntKind.i64.wrap (0 - dir) * back) = -dir * back := by
      rw [wr (x := 0 - dir) (by omega) (by omega), Int.zero_sub]
      rcases hd with rfl | rfl <;> rcases hb with rfl | rfl <;> exact wr (by omega) (by omega)
    have wb : -1000000 ≤ -dir * back ∧ -dir * back ≤ 1000000 := by
      rcases hd with rfl | rfl <;> rcases hb with rfl | rfl <;> omega
    have hr := rem_lt (node + -dir * back) (show 0 < n by omega)
    have hdm : s_dom n pi e g fi ps acts ro sl node (((sides.getD (s_rem (node + -dir * back) n).toNat []).getD 2 AV.gone).toS) := ⟨hc, h1, h2, h3, h4, h5, by omega, hs _, ha⟩
    simp only [w, chk_iff, hyp_iff, Nat.zero_add]
    refine ⟨⟨by omega, by omega, by omega, by omega, wb.1, wb.2⟩, ⟨hr.1, by omega⟩, by omega, br_intro (fun c => hq _ ?_) fun c => ⟨⟨hr.1, by omega⟩, by omega, hdm, fun z hz => ⟨?_, hq _ ?_⟩⟩⟩
    · unfold s_gCome
      have c : ((done.getD (s_rem (node + -dir * back) n).toNat []).getD 0 AV.gone).toB = false := by simpa using c
      simp only [c]
      rfl
    · have h7 : z.size ≤ 1000000 := by
        rw [hz]
        exact (em_of hF (nl := nl) (kind := kind) (at_ := at_) (fr := fr) (to_ := to_) (nl1 := nl1) (nl2 := nl2) (ds := ds) (fm := s_rem (node + -dir * back) n) hdm).1
      omega
    · unfold s_gCome
      have c : ((done.getD (s_rem (node + -dir * back) n).toNat []).getD 0 AV.gone).toB = true := by simpa using c
      simp only [c, if_true]
      rw [hz]
      rfl
  · exact hq.elim
theorem okW5 (hF : s_emOk F) (hE : OkS Tryz.prog H0 72 (sEmitF F)) {o w : SW} (ho : OkS Tryz.prog H0 43 o) (hw : OkS Tryz.prog H0 45 w) : OkSp Tryz.prog H0 (W5 F o w) := ⟨⟨okComeG hF hE, ho, hw, hE, okGuard, okU2.fn⟩, trivial⟩
theorem okNoG (g : Nat) : OkS Tryz.prog H0 g sNo := fun _ _ _ h => h.elim
theorem okLRunG (hF : s_emOk F) (hE : OkS Tryz.prog H0 72 (sEmitF F)) : OkLp Tryz.prog H0 27 12 (lRunG F) := by
  refine okLp_of (U := 6) (k := 6) (okW5 hF hE (okNoG _) (okNoG _)) (lRunG F) (fun vals _ => match vals with | [_, _, .int _ len, .int _ k] => (len - k).toNat | _ => 0) fun vals h Q hl => ?_
  unfold lRunG at hl
  split at hl
  · rename_i nw way len k n pi e g fi nl ps kind at_ fr to_ nl1 acts nl2 ds ro sl dir nl4 sts nl5 dvs n1 n2 sides done
    obtain ⟨⟨hc, ha, k1, k2, k3, k4, hdir, k5, k6, e1, e2, h0, h1, hlen, hwl, hin, l1, l2, hs, r1, r2⟩, hq⟩ := hyp_iff.1 hl
    obtain ⟨hn1, hn2⟩ := confOk_n hc
    obtain ⟨p1, p2⟩ := confOk_pi hc
    have hEm : s_emS ⟨n, dir, sl, pi, way, sts, dvs, s_emF F n pi e g fi nl ps kind at_ fr to_ nl1 acts nl2 ds ro sl⟩ := fun fm dst base a b c => (em_of hF (nl := nl) (kind := kind) (at_ := at_) (fr := fr) (to_ := to_) (nl1 := nl1) (nl2 := nl2) (ds := ds) (fm := fm) (dst := dst) (base := base) ⟨hc, k1, k2, k3, k4, a, b, c, ha⟩).1
    obtain ⟨K, rfl⟩ : ∃ K : Nat, k = K := ⟨k.toNat, by omega⟩
    refine to (nfRunGa ..) (br_intro (fun c => ?_) fun c => ?_)
    · have c := of_decide_eq_true c
      have hnl := hin K (by omega)
      obtain ⟨node, hnd⟩ : ∃ node, node = s_nd ⟨n, dir, sl, pi, way, sts, dvs, s_emF F n pi e g fi nl ps kind at_ fr to_ nl1 acts nl2 ds ro sl⟩ K := ⟨_, rfl⟩
      have hnode : ((way.getD K []).getD 0 AV.gone).toI = node := by rw [hnd]; rfl
      rw [hnode] at hnl
      have wk : IntKind.i64.wrap ((K : Int) + 1) = (K : Int) + 1 := wr (by omega) (by omega)
      have hge : decide (sl ≥ n) = decide (n ≤ sl) := rfl
      simp only [Int.toNat_natCast, hnode, chk_iff, hyp_iff, Nat.zero_add, wk]
      have hdl : (s_gDir ⟨n, dir, sl, pi, way, sts, dvs, s_emF F n pi e g fi nl ps kind at_ fr to_ nl1 acts nl2 ds ro sl⟩ sides done K).size ≤ 1000000000 := Nat.le_trans (gDir_le hEm hs (by rw [← hnd]; exact hnl.1) (by rw [← hnd]; omega)) (by omega)
      have leaf : ∀ (z z2 z3 : ByteArray), z = s_gDir ⟨n, dir, sl, pi, way, sts, dvs, s_emF F n pi e g fi nl ps kind at_ fr to_ nl1 acts nl2 ds ro sl⟩ sides done K → z2 = s_gCome ⟨n, dir, sl, pi, way, sts, dvs, s_emF F n pi e g fi nl ps kind at_ fr to_ nl1 acts nl2 ds ro sl⟩ sides done node 2 →
          z3 = (if s_int sts node = 0 then ⟨#[]⟩ else s_out (decide (0 < K) || decide (n ≤ sl)) z z2) →
          (0 ≤ node ∧ node < (n1 : Int)) ∧ node.toNat < sides.length ∧ (0 ≤ node ∧ node < (n2 : Int)) ∧ node.toNat < done.length ∧ (len - ((K : Int) + 1)).toNat < (len - (K : Int)).toNat ∧
            lRunG F [.ptr 0 0, .row nw [.int .i64] way, .int .i64 len, .int .i64 ((K : Int) + 1)] [.box [.int .i64 n, .int .i64 pi, .int .i64 e, .int .i64 g, .int .i64 fi, .row nl [.int .i64] ps, .int .i64 kind, .int .i64 at_, .int .i64 fr, .int .i64 to_, .row nl1 [.int .i64, .int .i64, .str] acts, .row nl2 [.int .i64] ds, .int .i64 ro, .int .i64 sl, .int .i64 dir, .row nl4 [.int .i64] sts, .row nl5 [.int .i64] dvs, .sl 1 0 n1, .sl 2 0 n2],
              .arr 2 53 [.str, .str, .str, .int .i64] (sides.set node.toNat (.str z :: .str z2 :: .str z3 :: .int .i64 ((K : Int) + 1) :: List.drop (0 + 4) (sides.getD node.toNat []))), .arr 2 4 [.bool] (done.set node.toNat (.bool true :: List.drop (0 + 1) (done.getD node.toNat [])))] Q := by
        intro z z2 z3 hz hz2 hz3
        refine ⟨⟨hnl.1, by omega⟩, by omega, ⟨hnl.1, by omega⟩, by omega, by omega, ?_⟩
        rw [Nat.zero_add, Nat.zero_add, drop_row r1, drop_row r2]
        have hsz : z3.size ≤ 1000000 := by
          rw [hz3]
          split
          · exact Nat.zero_le _
          · exact Nat.le_trans (out_le _ _ _) (by rw [hz]; exact gDir_le hEm hs (by rw [← hnd]; exact hnl.1) (by rw [← hnd]; omega))
        refine hyp_iff.2 ⟨⟨hc, ha, k1, k2, k3, k4, hdir, k5, k6, e1, e2, by omega, by omega, hlen, hwl, hin, by rw [List.length_set]; exact l1, by rw [List.length_set]; exact l2, set_small hs hsz, set_rows r1 rfl, set_rows r2 rfl⟩, fun rows rowd hr => hq rows rowd ?_⟩
        rw [hr]
        have ej : (len - (K : Int)).toNat = (len - ((K : Int) + 1)).toNat + 1 := by omega
        have ek : ((K : Int) + 1).toNat = K + 1 := by omega
        rw [ej, ek, Int.toNat_natCast]
        show (s_gIterP _ _ _ (K + 1) _).1 = (s_gIterP _ (sides.set _ (s_gNew _ sides done K)) (done.set _ _) (K + 1) _).1
        have en : s_gNew ⟨n, dir, sl, pi, way, sts, dvs, s_emF F n pi e g fi nl ps kind at_ fr to_ nl1 acts nl2 ds ro sl⟩ sides done K = [.str z, .str z2, .str z3, .int .i64 ((K : Int) + 1)] := by
          unfold s_gNew
          simp only [← hnd]
          rw [hz3, hz2, hz]
        rw [en]
        simp only [← hnd]
      have cm : ∀ b : Prop, b → s_confOk n pi e g fi (List.map (fun r => (r.getD 0 AV.gone).toI) ps) = true ∧ s_actsB acts ∧ 0 ≤ ro ∧ ro ≤ 1000000 ∧ 0 ≤ sl ∧ sl ≤ 1000000 ∧ (dir = 1 ∨ dir = -1) ∧ 0 ≤ node ∧ node < n ∧ b ∧ n1 = n.toNat ∧ n2 = n.toNat ∧ sides.length = n.toNat ∧ done.length = n.toNat ∧ s_small sides :=
        fun b hb => ⟨hc, ha, k1, k2, k3, k4, hdir, hnl.1, hnl.2, hb, e1, e2, l1, l2, hs⟩
      refine ⟨⟨by omega, by omega⟩, cm _ (.inl trivial), fun z1 hz1 => ⟨cm _ (.inr trivial), fun z2 hz2 => ?_⟩⟩
      have hz1 : z1 = s_gCome ⟨n, dir, sl, pi, way, sts, dvs, s_emF F n pi e g fi nl ps kind at_ fr to_ nl1 acts nl2 ds ro sl⟩ sides done node 1 := hz1
      have hz2 : z2 = s_gCome ⟨n, dir, sl, pi, way, sts, dvs, s_emF F n pi e g fi nl ps kind at_ fr to_ nl1 acts nl2 ds ro sl⟩ sides done node 2 := hz2
      refine br_intro (fun c1 => ⟨⟨hnl.1, by omega⟩, ⟨hnl.1, by omega⟩, ⟨p1, by omega⟩, fun z3 hz3 => ⟨⟨hnl.1, by omega⟩, ?_⟩⟩) fun c1 => ⟨⟨hnl.1, by omega⟩, ?_⟩
      · have c1 := beq_iff_eq.1 c1
        have hd : z3 = s_gDir ⟨n, dir, sl, pi, way, sts, dvs, s_emF F n pi e g fi nl ps kind at_ fr to_ nl1 acts nl2 ds ro sl⟩ sides done K := by
          unfold s_gDir
          rw [if_pos (by omega), hz3, hz1]
          simp only [← hnd]
          rfl
        refine br_intro (fun c2 => br_intro (fun c3 => ?_) fun c3 => ⟨by rw [hd]; exact hdl, fun z4 hz4 => ?_⟩) fun c2 => ?_
        · have c3 := of_decide_eq_true c3
          omega
        · have c2 : ¬ s_int sts node = 0 := by
            have : ((sts.getD node.toNat []).getD 0 AV.gone).toI ≠ 0 := by simpa using c2
            exact this
          refine leaf z3 z2 z4 hd hz2 ?_
          rw [if_neg c2, hz4, hge, show decide (0 < K) = false from decide_eq_false (by omega), Bool.false_or]
        · have c2 : s_int sts node = 0 := by
            have : ((sts.getD node.toNat []).getD 0 AV.gone).toI = 0 := by simpa using c2
            exact this
          exact leaf z3 z2 _ hd hz2 (by rw [if_pos c2])
      · have c1 := beq_eq_false_iff_ne.1 c1
        have hd : z1 = s_gDir ⟨n, dir, sl, pi, way, sts, dvs, s_emF F n pi e g fi nl ps kind at_ fr to_ nl1 acts nl2 ds ro sl⟩ sides done K := by
          unfold s_gDir
          rw [if_neg (by omega), hz1]
          simp only [← hnd]
        refine br_intro (fun c2 => br_intro (fun c3 => ⟨by rw [hd]; exact hdl, fun z4 hz4 => ?_⟩) fun c3 => ?_) fun c2 => ?_
        · have c2 : ¬ s_int sts node = 0 := by
            have : ((sts.getD node.toNat []).getD 0 AV.gone).toI ≠ 0 := by simpa using c2
            exact this
          refine leaf z1 z2 z4 hd hz2 ?_
          rw [if_neg c2, hz4, show decide (0 < K) = true from decide_eq_true (by omega), Bool.true_or]
        · have c3 := of_decide_eq_false c3
          omega
        · have c2 : s_int sts node = 0 := by
            have : ((sts.getD node.toNat []).getD 0 AV.gone).toI = 0 := by simpa using c2
            exact this
          exact leaf z1 z2 _ hd hz2 (by rw [if_pos c2])
    · have c := of_decide_eq_false c
      have e0 : (len - (K : Int)).toNat = 0 := by omega
      refine hq _ _ ?_
      rw [e0]
      rfl
  · exact hl.elim
theorem okW5L (hF : s_emOk F) (hE : OkS Tryz.prog H0 72 (sEmitF F)) {o w : SW} (ho : OkS Tryz.prog H0 43 o) (hw : OkS Tryz.prog H0 45 w) : OkSp Tryz.prog H0 (W5L F o w) := ⟨(okW5 hF hE ho hw).fn, okLRunG hF hE, trivial⟩
end
end Go.Proofs.YtiemjcchlfbglaaGreatE
/- spread.Run in general. -/
namespace Go.Proofs.YtiemjcchlfbglaaGreatE
open Go
set_option linter.unusedVariables false
set_option linter.unusedSimpArgs false
set_option maxRecDepth 100000

theorem gIter_len (P : RG) : ∀ (j k : Nat) (a b : List (List AV)), (s_gIterS P a b k j).length = a.length
  | 0, _, _, _ => rfl
  | j + 1, k, a, b => by
    show (s_gIterS P _ _ (k + 1) j).length = _
    rw [gIter_len P j, List.length_set]
theorem wayL_in {n o dir : Int} (hn : 0 < n) (m : Nat) : s_wayIn n (s_wayL n o dir m) := fun k hk => by
  rw [wayL_len] at hk
  unfold s_wayL
  rw [range_get _ _ _ _ hk]
  exact node_lt hn (k + 1)
theorem own_set {l : List (List AV)} {i : Nat} {s : ByteArray} (h : l.getD i [] = zeroS) : setAll (l.getD i []) 2 [AV.str s] = ownS s := by
  rw [h]; rfl
theorem getD_set_ne {l : List (List AV)} {i j : Nat} {r : List AV} (h : i ≠ j) : (l.set i r).getD j [] = l.getD j [] := by
  rw [List.getD_eq_getElem?_getD, List.getElem?_set_ne h, ← List.getD_eq_getElem?_getD]
section
variable {F : List AV → ByteArray}
theorem okRunF (hF : s_emOk F) (hE : OkS Tryz.prog H0 72 (sEmitF F)) : OkS Tryz.prog H0 27 (sRunF F) := by
  intro args h Q hq
  unfold sRunF at hq
  split at hq
  · rename_i n pi e g fi nl ps kind at_ fr to_ nl1 acts nl2 ds ro sl dir nl3 s nl4 sts nl5 dvs
    obtain ⟨⟨hc, ha, q1, q2, q3, q4, hd, k10, k11, k5, hsz⟩, hq⟩ := hyp_iff.1 hq
    obtain ⟨hn1, hn2⟩ := confOk_n hc
    refine in_ok (S := W5L F sOwn1 sWay) (U := 6) (k := 6) (okW5L hF hE okOwn okWay) (to (nfRun1 ..) ?_)
    have hi : sl.toNat < n.toNat := by omega
    have e1 : (((List.replicate n.toNat [AV.str (ByteArray.mk #[]), AV.str (ByteArray.mk #[]), AV.str (ByteArray.mk #[]), AV.int IntKind.i64 0])).set (0 + sl.toNat) (setAll (((List.replicate n.toNat [AV.str (ByteArray.mk #[]), AV.str (ByteArray.mk #[]), AV.str (ByteArray.mk #[]), AV.int IntKind.i64 0])).getD (0 + sl.toNat) []) 2 [AV.str s])) = s_gI1 n sl s := by
      rw [Nat.zero_add, rep_get hi]
      rfl
    have e2 : (((List.replicate n.toNat [AV.bool false])).set (0 + sl.toNat) (AV.bool true :: List.drop (0 + 1) (((List.replicate n.toNat [AV.bool false])).getD (0 + sl.toNat) []))) = s_gI2 n sl := by
      rw [Nat.zero_add, rep_get hi]
      rfl
    have l1 : (s_gI1 n sl s).length = n.toNat := by simp [s_gI1]
    have l2 : (s_gI2 n sl).length = n.toNat := by simp [s_gI2]
    refine hyp_iff.2 ⟨⟨q3, k5, by omega⟩, hyp_iff.2 ⟨hc, br_intro (fun c => (bne_no k10 c).elim) fun _ => br_intro (fun c => (bne_no k11 c).elim) fun _ => ?_⟩⟩
    rw [e1, e2]
    simp only [chk_iff, hyp_iff, List.length_replicate]
    refine ⟨⟨by omega, by omega, by omega⟩, by omega, ⟨by omega, by omega, by omega⟩, by omega, ⟨q3, by omega⟩, by omega, ⟨q3, by omega⟩, by omega, ⟨trivial, hn1, hn2, q3, k5, hd⟩, fun m way hw => ?_⟩
    · obtain ⟨hm, hw⟩ := hw
      have hwl : way.length = m := by rw [hw, wayL_len]
      refine ⟨⟨hc, ha, q1, q2, q3, q4, hd, k10, k11, trivial, trivial, by omega, by omega, trivial, by omega, ?_, l1, l2, ?_, ?_, ?_⟩, fun rows rowd hr => ?_⟩
      · rw [hw]; exact wayL_in (by omega) m
      · exact set_small (rep_small _) hsz
      · exact set_rows (rep_rows _ _ _ rfl) rfl
      · exact set_rows (rep_rows _ _ _ rfl) rfl
      · have hl : rows.length = n.toNat := by rw [hr, gIter_len, l1]
        have ht : List.take n.toNat rows = rows := List.take_of_length_le (Nat.le_of_eq hl)
        have ht2 : List.take rows.length rows = rows := List.take_length
        simp only [Nat.zero_add, List.drop_zero, List.nil_append, ht, ht2]
        refine ⟨by omega, by omega, by omega, Nat.le_refl _, hq rows ?_⟩
        rw [hr, hw, wayL_len]
        have : m = (n - 1).toNat := by omega
        rw [this]
        congr 1
  · rename_i n pi e g fi nl ps kind at_ fr to_ nl1 acts nl2 ds ro sl dir nl3 s s2 nl4 sts nl5 dvs
    obtain ⟨⟨hc, ha, q1, q2, q3, q4, hd, k10, k11, k5, k6, k7, k8, hsz, hsz2⟩, hq⟩ := hyp_iff.1 hq
    obtain ⟨hn1, hn2, hn3⟩ := confOk_ps hc
    have hb := rem_lt (s_pair ps (sl - n) + 1) (show 0 < n by omega)
    have hne : (s_pair ps (sl - n)).toNat ≠ (s_rem (s_pair ps (sl - n) + 1) n).toNat := by
      have := rem1 (n := n) (by omega) k7 k8
      intro hh
      split at this <;> omega
    refine in_ok (S := W5L F sOwn2 sWay2) (U := 6) (k := 6) (okW5L hF hE okOwn2 okWay2) (to (nfRun2 ..) ?_)
    have hi : (s_pair ps (sl - n)).toNat < n.toNat := by omega
    have hi2 : (s_rem (s_pair ps (sl - n) + 1) n).toNat < n.toNat := by omega
    have e1 : (((List.replicate n.toNat [AV.str (ByteArray.mk #[]), AV.str (ByteArray.mk #[]), AV.str (ByteArray.mk #[]), AV.int IntKind.i64 0])).set (0 + (s_pair ps (sl - n)).toNat) (setAll (((List.replicate n.toNat [AV.str (ByteArray.mk #[]), AV.str (ByteArray.mk #[]), AV.str (ByteArray.mk #[]), AV.int IntKind.i64 0])).getD (0 + (s_pair ps (sl - n)).toNat) []) 2 [AV.str s])) = (List.replicate n.toNat [AV.str (ByteArray.mk #[]), AV.str (ByteArray.mk #[]), AV.str (ByteArray.mk #[]), AV.int IntKind.i64 0]).set (s_pair ps (sl - n)).toNat (ownS s) := by
      rw [Nat.zero_add, rep_get hi]
      rfl
    have e2 : (((List.replicate n.toNat [AV.bool false])).set (0 + (s_pair ps (sl - n)).toNat) (AV.bool true :: List.drop (0 + 1) (((List.replicate n.toNat [AV.bool false])).getD (0 + (s_pair ps (sl - n)).toNat) []))) = (List.replicate n.toNat [AV.bool false]).set (s_pair ps (sl - n)).toNat [AV.bool true] := by
      rw [Nat.zero_add, rep_get hi]
      rfl
    have e3 : (((List.replicate n.toNat [AV.str (ByteArray.mk #[]), AV.str (ByteArray.mk #[]), AV.str (ByteArray.mk #[]), AV.int IntKind.i64 0]).set (s_pair ps (sl - n)).toNat (ownS s)).set (0 + (s_rem (s_pair ps (sl - n) + 1) n).toNat) (setAll (((List.replicate n.toNat [AV.str (ByteArray.mk #[]), AV.str (ByteArray.mk #[]), AV.str (ByteArray.mk #[]), AV.int IntKind.i64 0]).set (s_pair ps (sl - n)).toNat (ownS s)).getD (0 + (s_rem (s_pair ps (sl - n) + 1) n).toNat) []) 2 [AV.str s2])) = s_gI3 n (s_pair ps (sl - n)) s s2 := by
      rw [Nat.zero_add, getD_set_ne hne, rep_get hi2]
      rfl
    have e4 : (((List.replicate n.toNat [AV.bool false]).set (s_pair ps (sl - n)).toNat [AV.bool true]).set (0 + (s_rem (s_pair ps (sl - n) + 1) n).toNat) (AV.bool true :: List.drop (0 + 1) (((List.replicate n.toNat [AV.bool false]).set (s_pair ps (sl - n)).toNat [AV.bool true]).getD (0 + (s_rem (s_pair ps (sl - n) + 1) n).toNat) []))) = s_gI4 n (s_pair ps (sl - n)) := by
      rw [Nat.zero_add, getD_set_ne hne, rep_get hi2]
      rfl
    have l1 : (s_gI3 n (s_pair ps (sl - n)) s s2).length = n.toNat := by simp [s_gI3]
    have l2 : (s_gI4 n (s_pair ps (sl - n))).length = n.toNat := by simp [s_gI4]
    refine hyp_iff.2 ⟨⟨hn1, hn2, k5, k6, hn3, k7, k8⟩, hyp_iff.2 ⟨hc, br_intro (fun c => (bne_no k10 c).elim) fun _ => br_intro (fun c => (bne_no k11 c).elim) fun _ => ?_⟩⟩
    rw [e1, e2, e3, e4]
    simp only [chk_iff, hyp_iff, List.length_replicate, List.length_set]
    refine ⟨⟨by omega, by omega, by omega⟩, by omega, ⟨by omega, by omega, by omega⟩, by omega, ⟨k7, by omega⟩, by omega, ⟨k7, by omega⟩, by omega, ⟨hb.1, by omega⟩, by omega, ⟨hb.1, by omega⟩, by omega, ⟨trivial, hn1, hn2, k7, k8, trivial, hd⟩, fun m way hw => ?_⟩
    · obtain ⟨hm, hw⟩ := hw
      have hwl : way.length = m := by rw [hw, wayL_len]
      refine ⟨⟨hc, ha, q1, q2, q3, q4, hd, k10, k11, trivial, trivial, by omega, by omega, trivial, by omega, ?_, l1, l2, ?_, ?_, ?_⟩, fun rows rowd hr => ?_⟩
      · rw [hw]; exact wayL_in (by omega) m
      · exact set_small (set_small (rep_small _) hsz) hsz2
      · exact set_rows (set_rows (rep_rows _ _ _ rfl) rfl) rfl
      · exact set_rows (set_rows (rep_rows _ _ _ rfl) rfl) rfl
      · have hl : rows.length = n.toNat := by rw [hr, gIter_len, l1]
        have ht : List.take n.toNat rows = rows := List.take_of_length_le (Nat.le_of_eq hl)
        have ht2 : List.take rows.length rows = rows := List.take_length
        simp only [Nat.zero_add, List.drop_zero, List.nil_append, ht, ht2]
        refine ⟨by omega, by omega, by omega, Nat.le_refl _, hq rows ?_⟩
        rw [hr, hw, wayL_len]
        have : m = (n - 2).toNat := by omega
        rw [this]
        congr 1
  · rename_i n pi e g fi nl ps kind at_ fr to_ nl1 acts nl2 ds ro sl dir nl3 nl4 sts nl5 dvs
    obtain ⟨⟨hc, ha, q1, q2, q3, q4, hd, k10, k11, k5, k6, k7⟩, hq⟩ := hyp_iff.1 hq
    obtain ⟨hn1, hn2, hn3⟩ := confOk_ps hc
    refine in_ok (S := W5L F sOwn0 sWay0) (U := 6) (k := 6) (okW5L hF hE okOwn0 okWay0) (to (nfRun0 ..) ?_)
    have l1 : (List.replicate n.toNat [AV.str (ByteArray.mk #[]), AV.str (ByteArray.mk #[]), AV.str (ByteArray.mk #[]), AV.int IntKind.i64 0]).length = n.toNat := by simp
    have l2 : (List.replicate n.toNat [AV.bool false]).length = n.toNat := by simp
    refine hyp_iff.2 ⟨⟨hn1, hn2, k5, k6, hn3, k7⟩, hyp_iff.2 ⟨hc, br_intro (fun c => (bne_no k10 c).elim) fun _ => br_intro (fun c => (bne_no k11 c).elim) fun _ => ?_⟩⟩
    rw [chk_iff, chk_iff, chk_iff, chk_iff]
    refine ⟨⟨by omega, by omega, by omega⟩, by omega, ⟨by omega, by omega, by omega⟩, by omega, hyp_iff.2 ⟨⟨hc, ha, q1, q2, q3, q4, hd, k10, k11, rfl, rfl, by omega, by omega, rfl, by omega, fun k hk => absurd hk (Nat.not_lt_zero k), l1, l2, rep_small _, rep_rows _ _ _ rfl, rep_rows _ _ _ rfl⟩, fun rows rowd hr => ?_⟩⟩
    have hr : rows = (List.replicate n.toNat [AV.str (ByteArray.mk #[]), AV.str (ByteArray.mk #[]), AV.str (ByteArray.mk #[]), AV.int IntKind.i64 0]) := hr
    have hl : rows.length = n.toNat := by rw [hr, l1]
    have ht : List.take n.toNat rows = rows := List.take_of_length_le (Nat.le_of_eq hl)
    have ht2 : List.take rows.length rows = rows := List.take_length
    simp only [Nat.zero_add, List.drop_zero, List.nil_append, ht, ht2, chk_iff]
    refine ⟨by omega, by omega, by omega, Nat.le_refl _, ?_⟩
    rw [hr]
    exact hq
  · exact hq.elim
end
theorem okRunG : OkS Tryz.prog H0 27 sRunG := by
  obtain ⟨F, hF, hE⟩ := em_ex
  intro args h Q hq
  refine okRunF hF hE args h Q ?_
  unfold sRunG at hq
  split at hq
  · obtain ⟨hh, hq⟩ := hyp_iff.1 hq
    obtain ⟨hc, ha, q1, q2, q3, q4, hd, _⟩ := id hh
    exact hyp_iff.2 ⟨hh, hq _ fun fm dst base a b c => em_of hF ⟨hc, q1, q2, q3, q4, a, b, c, ha⟩⟩
  · obtain ⟨hh, hq⟩ := hyp_iff.1 hq
    obtain ⟨hc, ha, q1, q2, q3, q4, hd, _⟩ := id hh
    exact hyp_iff.2 ⟨hh, hq _ fun fm dst base a b c => em_of hF ⟨hc, q1, q2, q3, q4, a, b, c, ha⟩⟩
  · exact hq
  · exact hq.elim
theorem okW6 : OkSp Tryz.prog H0 W6 := ⟨⟨okRunG, okX5.fn⟩, trivial⟩
end Go.Proofs.YtiemjcchlfbglaaGreatE
/- A slot that goes round, in general: what each node has. -/
namespace Go.Proofs.YtiemjcchlfbglaaGreatE
open Go
set_option linter.unusedVariables false
set_option linter.unusedSimpArgs false

section
variable (P : RG) (o : Int) (two : Bool) (a b : ByteArray)
abbrev gN (k : Nat) : Int := s_node P.n o P.dir k
def gC (x : ByteArray) (i j : Nat) : ByteArray := s_clean (P.em (gN P o i) (gN P o j) x)
def gGrd (x : ByteArray) : ByteArray := s_guard P.pi (s_int P.sts (gN P o 1)) (s_int P.dvs (gN P o 1)) x
def gDirX (x : ByteArray) (k : Nat) : ByteArray := if k = 0 then gGrd P o (gC P o x 0 1) else gC P o x k (k + 1)
def gSkipX (y : ByteArray) (k : Nat) : ByteArray := if k = 0 then (if two then gC P o y (P.n.toNat - 1) 1 else ⟨#[]⟩) else gC P o y (k - 1) (k + 1)
def gOutX (x y : ByteArray) (k : Nat) : ByteArray :=
  if s_int P.sts (gN P o (k + 1)) = 0 then ⟨#[]⟩ else s_out (decide (0 < k) || decide (P.n ≤ P.sl)) (gDirX P o x k) (gSkipX P o two y k)
def gO : Nat → ByteArray × ByteArray
  | 0 => (a, b)
  | k + 1 => (gOutX P o two (gO k).1 (gO k).2 k, (gO k).1)
def gSide (j : Nat) : List AV :=
  if j = 0 then ownS a else if two = true ∧ (j : Int) = P.n - 1 then ownS b else [.str (gDirX P o (gO P o two a b (j - 1)).1 (j - 1)), .str (gSkipX P o two (gO P o two a b (j - 1)).2 (j - 1)), .str (gO P o two a b j).1, .int .i64 j]
def gIs (k f : Nat) : Bool := decide (f ≤ k) || (two && decide ((f : Int) = P.n - 1))
def mG (k : Nat) : List (List AV) := (List.range P.n.toNat).map fun (i : Nat) => if gIs P two k (s_far P.n o P.dir i).toNat then gSide P o two a b (s_far P.n o P.dir i).toNat else zeroS
def mGd (k : Nat) : List (List AV) := (List.range P.n.toNat).map fun (i : Nat) => [AV.bool (gIs P two k (s_far P.n o P.dir i).toNat)]
def gOk (M : Nat) : Prop := 6 ≤ P.n ∧ P.n ≤ 12 ∧ (P.dir = 1 ∨ P.dir = -1) ∧ 0 ≤ o ∧ o < P.n ∧ P.way = s_wayL P.n o P.dir M ∧ (M : Int) < P.n ∧ (two = true → (M : Int) + 1 < P.n)
end
section
variable {P : RG} {o : Int} {two : Bool} {a b : ByteArray} {M : Nat}
theorem g_far (hok : gOk P o two M) {m : Nat} (hm : (m : Int) < P.n) : (s_far P.n o P.dir (gN P o m)).toNat = m := by
  rw [far_node hok.2.2.1 hok.2.2.2.1 hok.2.2.2.2.1 hm, Int.toNat_natCast]
theorem g_lt (hok : gOk P o two M) (m : Nat) : 0 ≤ gN P o m ∧ gN P o m < P.n := node_lt (by have := hok.1; omega) m
theorem mG_get (hok : gOk P o two M) (k : Nat) {m : Nat} (hm : (m : Int) < P.n) : (mG P o two a b k).getD (gN P o m).toNat [] = if gIs P two k m then gSide P o two a b m else zeroS := by
  have hl := g_lt hok m
  unfold mG
  rw [range_get _ _ _ _ (by omega), Int.toNat_of_nonneg hl.1, g_far hok hm]
theorem mGd_get (hok : gOk P o two M) (k : Nat) {m : Nat} (hm : (m : Int) < P.n) : ((mGd P o two k).getD (gN P o m).toNat []).getD 0 AV.gone = .bool (gIs P two k m) := by
  have hl := g_lt hok m
  unfold mGd
  rw [range_get _ _ _ _ (by omega), Int.toNat_of_nonneg hl.1, g_far hok hm]
  rfl
theorem gSide_out (hok : gOk P o two M) {m : Nat} (hm : m ≤ M) : s_out2 (gSide P o two a b m) = (gO P o two a b m).1 := by
  unfold gSide
  cases m with
  | zero => rfl
  | succ m =>
    rw [if_neg (by omega), if_neg]
    · rfl
    · intro h
      have := hok.2.2.2.2.2.2.2 h.1
      omega
theorem gIs_le {k f : Nat} (h : f ≤ k) : gIs P two k f = true := by unfold gIs; rw [decide_eq_true h]; rfl
theorem gCome1 (hok : gOk P o two M) {k : Nat} (hk : k + 1 ≤ M) : s_gCome P (mG P o two a b k) (mGd P o two k) (gN P o (k + 1)) 1 = gC P o (gO P o two a b k).1 k (k + 1) := by
  have hM := hok.2.2.2.2.2.2.1
  unfold s_gCome
  rw [Int.mul_one, node_back1 hok.2.2.1 hok.2.2.2.1 hok.2.2.2.2.1 (by omega), mGd_get hok k (by omega), mG_get hok k (by omega), gIs_le (Nat.le_refl k)]
  simp only [if_true]
  rw [gSide_out hok (by omega)]
  rfl
theorem gCome2 (hok : gOk P o two M) {k : Nat} (hk : k + 1 ≤ M) : s_gCome P (mG P o two a b k) (mGd P o two k) (gN P o (k + 1)) 2 = gSkipX P o two (gO P o two a b k).2 k := by
  have hM := hok.2.2.2.2.2.2.1
  have hn := hok.1
  unfold s_gCome gSkipX
  cases k with
  | zero =>
    rw [node_back_last hok.2.2.1 (by omega) hok.2.2.2.1 hok.2.2.2.2.1, mGd_get hok 0 (by omega), mG_get hok 0 (by omega), if_pos rfl]
    cases two with
    | false =>
      have : gIs P false 0 (P.n.toNat - 1) = false := by
        unfold gIs
        rw [decide_eq_false (by omega)]
        rfl
      rw [this]
      rfl
    | true =>
      have : gIs P true 0 (P.n.toNat - 1) = true := by
        unfold gIs
        rw [decide_eq_true (show ((P.n.toNat - 1 : Nat) : Int) = P.n - 1 by omega)]
        simp
      rw [this]
      simp only [if_true]
      have e : gSide P o true a b (P.n.toNat - 1) = ownS b := by
        unfold gSide
        rw [if_neg (by omega), if_pos ⟨rfl, by omega⟩]
      rw [e]
      rfl
  | succ j =>
    rw [node_back2 hok.2.2.1 hok.2.2.2.1 hok.2.2.2.2.1 (k := j) (by omega), mGd_get hok (j + 1) (by omega), mG_get hok (j + 1) (by omega), gIs_le (show j ≤ j + 1 by omega), if_neg (show ¬ (j + 1 = 0) by omega)]
    simp only [if_true]
    rw [gSide_out hok (by omega)]
    rfl
theorem gNd (hok : gOk P o two M) {k : Nat} (hk : k + 1 ≤ M) : s_nd P k = gN P o (k + 1) := by
  unfold s_nd
  rw [hok.2.2.2.2.2.1]
  unfold s_wayL
  rw [range_get _ _ _ _ (by omega)]
  rfl
theorem gNew_side (hok : gOk P o two M) {k : Nat} (hk : k + 1 ≤ M) : s_gNew P (mG P o two a b k) (mGd P o two k) k = gSide P o two a b (k + 1) := by
  have hd : s_gDir P (mG P o two a b k) (mGd P o two k) k = gDirX P o (gO P o two a b k).1 k := by
    unfold s_gDir gDirX
    rw [gNd hok hk, gCome1 hok hk]
    by_cases h0 : k = 0
    · rw [if_pos h0, if_pos h0]
      subst h0
      rfl
    · rw [if_neg h0, if_neg h0]
  have hne : ¬ (two = true ∧ ((k + 1 : Nat) : Int) = P.n - 1) := fun h => by
    have := hok.2.2.2.2.2.2.2 h.1
    omega
  unfold s_gNew
  rw [hd, gNd hok hk, gCome2 hok hk]
  unfold gSide
  rw [if_neg (show ¬ (k + 1 = 0) by omega), if_neg hne]
  rfl
theorem g_inj (hok : gOk P o two M) {i : Nat} (hi : (i : Int) < P.n) {m : Nat} (hm : (m : Int) < P.n) : (gN P o m).toNat = i ↔ (s_far P.n o P.dir i).toNat = m := by
  have hl := g_lt hok m
  constructor
  · intro h
    have : gN P o m = (i : Int) := by omega
    rw [← this, g_far hok hm]
  · intro h
    have := node_far (n := P.n) (o := o) (dir := P.dir) hok.2.2.1 hok.2.2.2.1 hok.2.2.2.2.1 (i := i) (by omega) hi
    rw [h] at this
    show (s_node P.n o P.dir m).toNat = i
    rw [this, Int.toNat_natCast]
theorem gIs_succ {k f : Nat} (h : f ≠ k + 1) : gIs P two (k + 1) f = gIs P two k f := by
  unfold gIs
  have : decide (f ≤ k + 1) = decide (f ≤ k) := by
    by_cases hf : f ≤ k
    · rw [decide_eq_true hf, decide_eq_true (by omega)]
    · rw [decide_eq_false hf, decide_eq_false (by omega)]
  rw [this]
theorem gStep_side (hok : gOk P o two M) {k : Nat} (hk : k + 1 ≤ M) : (mG P o two a b k).set (s_nd P k).toNat (s_gNew P (mG P o two a b k) (mGd P o two k) k) = mG P o two a b (k + 1) := by
  have hM := hok.2.2.2.2.2.2.1
  have hl := g_lt hok (k + 1)
  rw [gNew_side hok hk, gNd hok hk]
  unfold mG
  refine set_range _ _ _ _ _ ?_ fun i hi hne => ?_
  · have hf := (g_inj hok (i := (gN P o (k + 1)).toNat) (by omega) (m := k + 1) (by omega)).1 rfl
    simp only [hf]
    rw [gIs_le (Nat.le_refl _), if_pos rfl]
  · have hf : ¬ (s_far P.n o P.dir i).toNat = k + 1 := fun h => hne ((g_inj hok (by omega) (by omega)).2 h).symm
    rw [gIs_succ hf]
theorem gStep_done (hok : gOk P o two M) {k : Nat} (hk : k + 1 ≤ M) : (mGd P o two k).set (s_nd P k).toNat [.bool true] = mGd P o two (k + 1) := by
  have hM := hok.2.2.2.2.2.2.1
  have hl := g_lt hok (k + 1)
  rw [gNd hok hk]
  unfold mGd
  refine set_range _ _ _ _ _ ?_ fun i hi hne => ?_
  · have hf := (g_inj hok (i := (gN P o (k + 1)).toNat) (by omega) (m := k + 1) (by omega)).1 rfl
    simp only [hf]
    rw [gIs_le (Nat.le_refl _)]
  · have hf : ¬ (s_far P.n o P.dir i).toNat = k + 1 := fun h => hne ((g_inj hok (by omega) (by omega)).2 h).symm
    rw [gIs_succ hf]
theorem gIter (hok : gOk P o two M) : ∀ (j k : Nat), k + j ≤ M → s_gIterS P (mG P o two a b k) (mGd P o two k) k j = mG P o two a b (k + j)
  | 0, k, _ => rfl
  | j + 1, k, h => by
    show s_gIterS P ((mG P o two a b k).set _ (s_gNew P (mG P o two a b k) (mGd P o two k) k)) ((mGd P o two k).set _ _) (k + 1) j = _
    rw [gStep_side hok (by omega), gStep_done hok (by omega), gIter hok j (k + 1) (by omega)]
    congr 1
    omega
/-- **All round**: a node's row. -/
theorem g_get (hok : gOk P o two M) {s1 d1 : List (List AV)} (h1 : s1 = mG P o two a b 0) (h2 : d1 = mGd P o two 0) {m : Nat} (hm : m ≤ M ∨ two = true ∧ (m : Int) = P.n - 1) :
    (s_gIterS P s1 d1 0 M).getD (gN P o m).toNat [] = gSide P o two a b m := by
  have hM := hok.2.2.2.2.2.2.1
  rw [h1, h2, gIter hok M 0 (by omega), Nat.zero_add, mG_get hok M (by omega)]
  rcases hm with hm | ⟨ht, hm⟩
  · rw [gIs_le hm, if_pos rfl]
  · have : gIs P two M m = true := by unfold gIs; rw [ht, decide_eq_true hm]; simp
    rw [this, if_pos rfl]
theorem g_len (hok : gOk P o two M) {s1 d1 : List (List AV)} (h1 : s1 = mG P o two a b 0) : (s_gIterS P s1 d1 0 M).length = P.n.toNat := by
  rw [gIter_len, h1]
  simp [mG]
theorem g_node (hok : gOk P o two M) {i : Int} (h1 : 0 ≤ i) (h2 : i < P.n) : gN P o (s_far P.n o P.dir i).toNat = i ∧ ((s_far P.n o P.dir i).toNat : Int) < P.n :=
  ⟨node_far hok.2.2.1 hok.2.2.2.1 hok.2.2.2.2.1 h1 h2, by have := far_lt (n := P.n) (o := o) (dir := P.dir) (by have := hok.1; omega) i; omega⟩
/-- One owner: the beginning. -/
theorem gI1_eq (hok : gOk P o false M) : s_gI1 P.n o a = mG P o false a b 0 := by
  unfold s_gI1 mG
  have h0 := hok.2.2.2.1
  have h1 := hok.2.2.2.2.1
  have hz : gN P o 0 = o := node_zero h0 h1
  have : List.replicate P.n.toNat zeroS = (List.range P.n.toNat).map fun _ => zeroS := by
    apply List.ext_getElem (by simp)
    intro i h1 h2
    simp
  rw [this]
  have inj0 := fun (i : Nat) (hi : (i : Int) < P.n) => g_inj hok hi (m := 0) (by omega)
  rw [hz] at inj0
  refine set_range _ _ _ _ _ ?_ fun i hi hne => ?_
  · have hf := (inj0 o.toNat (by omega)).1 rfl
    simp only [hf]
    rw [gIs_le (Nat.le_refl _)]
    rfl
  · have hf : ¬ (s_far P.n o P.dir i).toNat = 0 := fun h => hne ((inj0 i (by omega)).2 h).symm
    have : gIs P false 0 (s_far P.n o P.dir i).toNat = false := by unfold gIs; rw [decide_eq_false (by omega)]; rfl
    rw [this]
    rfl
theorem gI2_eq (hok : gOk P o false M) : s_gI2 P.n o = mGd P o false 0 := by
  unfold s_gI2 mGd
  have h0 := hok.2.2.2.1
  have h1 := hok.2.2.2.2.1
  have hz : gN P o 0 = o := node_zero h0 h1
  have : List.replicate P.n.toNat [AV.bool false] = (List.range P.n.toNat).map fun _ => [AV.bool false] := by
    apply List.ext_getElem (by simp)
    intro i h1 h2
    simp
  rw [this]
  have inj0 := fun (i : Nat) (hi : (i : Int) < P.n) => g_inj hok hi (m := 0) (by omega)
  rw [hz] at inj0
  refine set_range _ _ _ _ _ ?_ fun i hi hne => ?_
  · have hf := (inj0 o.toNat (by omega)).1 rfl
    simp only [hf]
    rw [gIs_le (Nat.le_refl _)]
  · have hf : ¬ (s_far P.n o P.dir i).toNat = 0 := fun h => hne ((inj0 i (by omega)).2 h).symm
    have : gIs P false 0 (s_far P.n o P.dir i).toNat = false := by unfold gIs; rw [decide_eq_false (by omega)]; rfl
    rw [this]
end
end Go.Proofs.YtiemjcchlfbglaaGreatE
