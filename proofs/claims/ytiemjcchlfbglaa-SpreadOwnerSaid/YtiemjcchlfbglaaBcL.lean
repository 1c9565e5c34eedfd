/- SpreadOwner: its loop's spec. -/
import Derived.Test.YtiemjcchlfbglaaBcK
import Derived.KernelRfl
namespace Go.Proofs.YtiemjcchlfbglaaE
open Go
set_option linter.unusedVariables false

def s_outI2 (rows : List (List AV)) (i : Int) : ByteArray := s_out2 (rows.getD i.toNat [])
def lOwn : LW := fun vals h Q => match vals, h with
  | [.int .i64 dir, .ptr 0 0, .row nl2 [.str, .str, .str, .int .i64] rows, .int .i64 a, .str w, .int .i64 k], [.box [.int .i64 n, .int .i64 pi, .int .i64 e, .int .i64 g, .int .i64 fi, .row nl [.int .i64] ps, .int .i64 fk, .int .i64 fa, .int .i64 ff, .int .i64 ft, .row nl3 [.int .i64, .int .i64, .str] acts, .row nl4 [.int .i64] ds, .int .i64 ro, .int .i64 sl, .int .i64 d2, .sl 1 0 1, .sl 2 0 m1, .sl 3 0 m2], .arr 0 9 [.str] [[.str z]], .arr 0 3 [.int .i64] sts, .arr 0 3 [.int .i64] dvs] =>
    Hyp (2 ≤ k ∧ k ≤ n ∧ 6 ≤ n ∧ n ≤ 12 ∧ (dir = 1 ∨ dir = -1) ∧ 0 ≤ sl ∧ sl < n ∧ (rows.length : Int) = n ∧ ∀ j : Int, 2 ≤ j → j < n → s_outI2 rows (s_rem (sl + dir * j) n) = w) ∧ Q (.exit 0) [.row nl2 [.str, .str, .str, .int .i64] rows, .int .i64 a] []
  | _, _ => False
def Y1O : Sp := ⟨Y1.fn, [(9, 18, lOwn)]⟩
end Go.Proofs.YtiemjcchlfbglaaE
/- What path mode says of functions, printed by a program of this session; the kernel holds each. -/
namespace Go.Proofs.YtiemjcchlfbglaaE
open Go
set_option maxRecDepth 100000
set_option linter.unusedVariables false
theorem nfOwna (dir a k n pi e g fi fk fa ff ft ro sl : Int) (nl nl2 : Bool) (ps rows : List (List AV)) (w : ByteArray) (nl3 nl4 : Bool) (acts ds : List (List AV)) (d2 : Int) (m1 m2 : Nat) (z : ByteArray) (sts dvs : List (List AV)) (Q : Ex → List AV → List AObj → Prop) : lpBody Try.prog H0 Y1 6 6 9 18 [.int .i64 dir, .ptr 0 0, .row nl2 [.str, .str, .str, .int .i64] rows, .int .i64 a, .str w, .int .i64 k] [.box [.int .i64 n, .int .i64 pi, .int .i64 e, .int .i64 g, .int .i64 fi, .row nl [.int .i64] ps, .int .i64 fk, .int .i64 fa, .int .i64 ff, .int .i64 ft, .row nl3 [.int .i64, .int .i64, .str] acts, .row nl4 [.int .i64] ds, .int .i64 ro, .int .i64 sl, .int .i64 d2, .sl 1 0 1, .sl 2 0 m1, .sl 3 0 m2], .arr 0 9 [.str] [[.str z]], .arr 0 3 [.int .i64] sts, .arr 0 3 [.int .i64] dvs] Q = (
br (decide (k < n))
 (((Hyp ((0 : Int) < n ∧
  n ≤ (1000000 : Int) ∧
    (-1000000 : Int) ≤ sl ∧
      sl ≤ (1000000 : Int) ∧
        (-1000000 : Int) ≤ IntKind.i64.wrap (dir * k) ∧ IntKind.i64.wrap (dir * k) ≤ (1000000 : Int))) ∧
 (chk ((0 : Int) ≤ s_rem (sl + IntKind.i64.wrap (dir * k)) n ∧ s_rem (sl + IntKind.i64.wrap (dir * k)) n < (↑rows.length : Int)) (br (!((rows.getD (s_rem (sl + IntKind.i64.wrap (dir * k)) n).toNat []).getD (2 : Nat) AV.gone).toS.toList == w.toList)
  (Q (Ex.ret) ([AV.bool false]) ([]))
  (Q (Ex.nrm) ([AV.int IntKind.i64 dir, AV.ptr (0 : Nat) (0 : Nat), AV.row nl2 [K.str, K.str, K.str, K.int IntKind.i64] rows,
  AV.int IntKind.i64 a, AV.str w, AV.int IntKind.i64 (IntKind.i64.wrap (k + (1 : Int)))]) ([AObj.box
    [AV.int IntKind.i64 n, AV.int IntKind.i64 pi, AV.int IntKind.i64 e, AV.int IntKind.i64 g, AV.int IntKind.i64 fi,
      AV.row nl [K.int IntKind.i64] ps, AV.int IntKind.i64 fk, AV.int IntKind.i64 fa, AV.int IntKind.i64 ff,
      AV.int IntKind.i64 ft, AV.row nl3 [K.int IntKind.i64, K.int IntKind.i64, K.str] acts,
      AV.row nl4 [K.int IntKind.i64] ds, AV.int IntKind.i64 ro, AV.int IntKind.i64 sl, AV.int IntKind.i64 d2,
      AV.sl (1 : Nat) (0 : Nat) (1 : Nat), AV.sl (2 : Nat) (0 : Nat) m1, AV.sl (3 : Nat) (0 : Nat) m2],
  AObj.arr (0 : Nat) (9 : Nat) [K.str] [[AV.str z]], AObj.arr (0 : Nat) (3 : Nat) [K.int IntKind.i64] sts,
  AObj.arr (0 : Nat) (3 : Nat) [K.int IntKind.i64] dvs]))))))
 (Q (Ex.exit (0 : Nat)) ([AV.row nl2 [K.str, K.str, K.str, K.int IntKind.i64] rows, AV.int IntKind.i64 a]) ([]))) := by kernel_rfl
theorem nfOwner (n pi e g fi : Int) (nl : Bool) (ps : List (List AV)) (fk fa ff ft : Int) (nl1 nl2 : Bool) (acts ds : List (List AV)) (round slot : Int) (k r sl pk pv : Int) (nl3 : Bool) (ec : List (List AV)) (nl4 : Bool) (ns : List (List AV)) (up : Bool) (Q : AV × List AObj → Prop) : inlW Try.prog H0 Y1O 6 (InO Try.prog H0 Y1O 6 6) 9 [cf n pi e g fi nl ps, .agg [.int .i64 fk, .int .i64 fa, .int .i64 ff, .int .i64 ft, .row nl1 [.int .i64, .int .i64, .str] acts, .row nl2 [.int .i64] ds], .int .i64 round, .int .i64 slot, .agg [.int .i64 k, .int .i64 r, .int .i64 sl, .int .i64 pk, .int .i64 pv, .row nl3 [.int .i64, .int .i64] ec], .row nl4 [.int .i64] ns, .bool up] [] Q = (
((Hyp (acts.length ≤ (9223372036854775807 : Nat))) ∧
((∀ (b101 : Bool),
((b101 = true →
  acts.length ≤ (50 : Nat) ∧ ds.length ≤ (50 : Nat) ∧ ∀ (r : List AV), r ∈ acts → (actText r).size ≤ (1200 : Nat)) →
br (!b101)
 (Q ((AV.bool true, [])))
 (br (!up)
  ((∀ (n105 : Int),
  (∀ (pi106 : Int),
  (∀ (e107 : Int),
  (∀ (g108 : Int),
  (∀ (fi109 : Int),
  (∀ (nl110 : Bool),
  (∀ (qs111 : List Int),
  (∀ (m112 : Nat),
  (∀ (z113 : ByteArray),
  ((s_made n105 pi106 e107 g108 fi109 qs111 ∧
  (↑m112 : Int) = n105 ∧ s_clean z113 = z113 ∧ (0 : Nat) < z113.size ∧ z113.size ≤ (1000 : Nat)) →
  ((Hyp ((6 : Int) ≤ n105 ∧ n105 ≤ (12 : Int))) ∧
  ((∀ (k'116 : Int),
  (∀ (a'117 : Int),
  (∀ (f'118 : Int),
  (∀ (t'119 : Int),
  (∀ (nl1'120 : Bool),
  (∀ (nl2'121 : Bool),
  (∀ (acts'122 : List (List AV)),
  (∀ (ds'123 : List Int),
  ((s_fok n105 k'116 a'117 f'118 t'119 acts'122 ds'123) →
  chk ((0 : Nat) + m112 ≤ (s_rep m112 (4 : Int)).length) (chk ((0 : Nat) + m112 ≤ (s_rep m112 (0 : Int)).length) (((Hyp (s_confOk n105 pi106 e107 g108 fi109
      (List.map (fun r => (r.getD (0 : Nat) AV.gone).toI) (List.map (fun n => [AV.int IntKind.i64 n]) qs111)) =
    true ∧
  s_actsB acts'122 ∧
    (0 : Int) ≤ s_rem round (900 : Int) ∧
      s_rem round (900 : Int) ≤ (1000000 : Int) ∧
        (0 : Int) ≤ s_rem slot n105 ∧
          s_rem slot n105 ≤ (1000000 : Int) ∧
            ((-1 : Int) = (1 : Int) ∨ (-1 : Int) = (-1 : Int)) ∧
              (↑(List.take m112 (List.drop (0 : Nat) (s_rep m112 (4 : Int)))).length : Int) = n105 ∧
                (↑(List.take m112 (List.drop (0 : Nat) (s_rep m112 (0 : Int)))).length : Int) = n105 ∧
                  s_rem slot n105 < n105 ∧ z113.size ≤ (1000000 : Nat))) ∧
  ((∀ (em128 : Int → Int → ByteArray → ByteArray),
  ((∀ (fm dst : Int) (base : ByteArray),
  (0 : Int) ≤ dst →
    dst ≤ (1000000 : Int) →
      base.size ≤ (1000000 : Nat) →
        s_emitR (s_hit n105 (1 : Int) (s_rem slot n105) fm dst) (0 : Int) (1000 : Int) (s_rem round (900 : Int)) base
          (em128 fm dst base)) →
  (∀ (rows130 : List (List AV)),
  ((rows130 =
  s_gIterS
    { n := n105, dir := (-1 : Int), sl := s_rem slot n105, pi := pi106,
      way := s_wayL n105 (s_rem slot n105) (-1 : Int) (n105 - (1 : Int)).toNat,
      sts := List.take m112 (List.drop (0 : Nat) (s_rep m112 (4 : Int))),
      dvs := List.take m112 (List.drop (0 : Nat) (s_rep m112 (0 : Int))), em := em128 }
    (s_gI1 n105 (s_rem slot n105) z113) (s_gI2 n105 (s_rem slot n105)) (0 : Nat) (n105 - (1 : Int)).toNat) →
  br ((↑rows130.length : Int) != n105)
   (Q ((AV.bool false, [])))
   (((Hyp ((0 : Int) < n105 ∧
  n105 ≤ (1000000 : Int) ∧
    (-1000000 : Int) ≤ s_rem slot n105 ∧
      s_rem slot n105 ≤ (1000000 : Int) ∧ (-1000000 : Int) ≤ (-1 : Int) ∧ (-1 : Int) ≤ (1000000 : Int))) ∧
   (((Hyp ((0 : Int) < n105 ∧
  n105 ≤ (1000000 : Int) ∧
    (-1000000 : Int) ≤ s_rem slot n105 ∧
      s_rem slot n105 ≤ (1000000 : Int) ∧ (-1000000 : Int) ≤ (-2 : Int) ∧ (-2 : Int) ≤ (1000000 : Int))) ∧
   (chk ((0 : Int) ≤ s_rem (s_rem slot n105 + (-1 : Int)) n105 ∧
  s_rem (s_rem slot n105 + (-1 : Int)) n105 < (↑rows130.length : Int)) (chk ((0 : Int) ≤ s_rem (s_rem slot n105 + (-2 : Int)) n105 ∧
  s_rem (s_rem slot n105 + (-2 : Int)) n105 < (↑rows130.length : Int)) (((Hyp (((rows130.getD (s_rem (s_rem slot n105 + (-1 : Int)) n105).toNat []).getD (0 : Nat) AV.gone).toS.size ≤ (1000000 : Nat))) ∧
   ((∀ (z138 : ByteArray),
   ((z138 =
  s_com ((rows130.getD (s_rem (s_rem slot n105 + (-1 : Int)) n105).toNat []).getD (0 : Nat) AV.gone).toS
    ((rows130.getD (s_rem (s_rem slot n105 + (-2 : Int)) n105).toNat []).getD (1 : Nat) AV.gone).toS) →
   ((Hyp ((2 : Int) ≤ (2 : Int) ∧
  (2 : Int) ≤ n105 ∧
    (6 : Int) ≤ n105 ∧
      n105 ≤ (12 : Int) ∧
        ((-1 : Int) = (1 : Int) ∨ (-1 : Int) = (-1 : Int)) ∧
          (0 : Int) ≤ s_rem slot n105 ∧
            s_rem slot n105 < n105 ∧
              (↑rows130.length : Int) = n105 ∧
                ∀ (j : Int),
                  (2 : Int) ≤ j → j < n105 → s_outI2 rows130 (s_rem (s_rem slot n105 + (-1 : Int) * j) n105) = z138)) ∧
   (chk ((0 : Int) ≤ s_rem (s_rem slot n105 + (-1 : Int)) n105 ∧
  s_rem (s_rem slot n105 + (-1 : Int)) n105 < (↑rows130.length : Int)) (chk ((0 : Int) ≤ s_rem (s_rem slot n105 + (-1 : Int)) n105 ∧
  s_rem (s_rem slot n105 + (-1 : Int)) n105 < (↑rows130.length : Int)) (Q ((AV.bool
    (((rows130.getD (s_rem (s_rem slot n105 + (-1 : Int)) n105).toNat []).getD (2 : Nat) AV.gone).toS.toList ==
      ((rows130.getD (s_rem (s_rem slot n105 + (-1 : Int)) n105).toNat []).getD (0 : Nat) AV.gone).toS.toList),
  [])))))))))))))))))))))))))))))))))))))))))))))))
  ((∀ (n105 : Int),
  (∀ (pi106 : Int),
  (∀ (e107 : Int),
  (∀ (g108 : Int),
  (∀ (fi109 : Int),
  (∀ (nl110 : Bool),
  (∀ (qs111 : List Int),
  (∀ (m112 : Nat),
  (∀ (z113 : ByteArray),
  ((s_made n105 pi106 e107 g108 fi109 qs111 ∧
  (↑m112 : Int) = n105 ∧ s_clean z113 = z113 ∧ (0 : Nat) < z113.size ∧ z113.size ≤ (1000 : Nat)) →
  ((Hyp ((6 : Int) ≤ n105 ∧ n105 ≤ (12 : Int))) ∧
  ((∀ (k'116 : Int),
  (∀ (a'117 : Int),
  (∀ (f'118 : Int),
  (∀ (t'119 : Int),
  (∀ (nl1'120 : Bool),
  (∀ (nl2'121 : Bool),
  (∀ (acts'122 : List (List AV)),
  (∀ (ds'123 : List Int),
  ((s_fok n105 k'116 a'117 f'118 t'119 acts'122 ds'123) →
  chk ((0 : Nat) + m112 ≤ (s_rep m112 (4 : Int)).length) (chk ((0 : Nat) + m112 ≤ (s_rep m112 (0 : Int)).length) (((Hyp (s_confOk n105 pi106 e107 g108 fi109
      (List.map (fun r => (r.getD (0 : Nat) AV.gone).toI) (List.map (fun n => [AV.int IntKind.i64 n]) qs111)) =
    true ∧
  s_actsB acts'122 ∧
    (0 : Int) ≤ s_rem round (900 : Int) ∧
      s_rem round (900 : Int) ≤ (1000000 : Int) ∧
        (0 : Int) ≤ s_rem slot n105 ∧
          s_rem slot n105 ≤ (1000000 : Int) ∧
            ((1 : Int) = (1 : Int) ∨ (1 : Int) = (-1 : Int)) ∧
              (↑(List.take m112 (List.drop (0 : Nat) (s_rep m112 (4 : Int)))).length : Int) = n105 ∧
                (↑(List.take m112 (List.drop (0 : Nat) (s_rep m112 (0 : Int)))).length : Int) = n105 ∧
                  s_rem slot n105 < n105 ∧ z113.size ≤ (1000000 : Nat))) ∧
  ((∀ (em128 : Int → Int → ByteArray → ByteArray),
  ((∀ (fm dst : Int) (base : ByteArray),
  (0 : Int) ≤ dst →
    dst ≤ (1000000 : Int) →
      base.size ≤ (1000000 : Nat) →
        s_emitR (s_hit n105 (1 : Int) (s_rem slot n105) fm dst) (0 : Int) (1000 : Int) (s_rem round (900 : Int)) base
          (em128 fm dst base)) →
  (∀ (rows130 : List (List AV)),
  ((rows130 =
  s_gIterS
    { n := n105, dir := (1 : Int), sl := s_rem slot n105, pi := pi106,
      way := s_wayL n105 (s_rem slot n105) (1 : Int) (n105 - (1 : Int)).toNat,
      sts := List.take m112 (List.drop (0 : Nat) (s_rep m112 (4 : Int))),
      dvs := List.take m112 (List.drop (0 : Nat) (s_rep m112 (0 : Int))), em := em128 }
    (s_gI1 n105 (s_rem slot n105) z113) (s_gI2 n105 (s_rem slot n105)) (0 : Nat) (n105 - (1 : Int)).toNat) →
  br ((↑rows130.length : Int) != n105)
   (Q ((AV.bool false, [])))
   (((Hyp ((0 : Int) < n105 ∧
  n105 ≤ (1000000 : Int) ∧
    (-1000000 : Int) ≤ s_rem slot n105 ∧
      s_rem slot n105 ≤ (1000000 : Int) ∧ (-1000000 : Int) ≤ (1 : Int) ∧ (1 : Int) ≤ (1000000 : Int))) ∧
   (((Hyp ((0 : Int) < n105 ∧
  n105 ≤ (1000000 : Int) ∧
    (-1000000 : Int) ≤ s_rem slot n105 ∧
      s_rem slot n105 ≤ (1000000 : Int) ∧ (-1000000 : Int) ≤ (2 : Int) ∧ (2 : Int) ≤ (1000000 : Int))) ∧
   (chk ((0 : Int) ≤ s_rem (s_rem slot n105 + (1 : Int)) n105 ∧
  s_rem (s_rem slot n105 + (1 : Int)) n105 < (↑rows130.length : Int)) (chk ((0 : Int) ≤ s_rem (s_rem slot n105 + (2 : Int)) n105 ∧
  s_rem (s_rem slot n105 + (2 : Int)) n105 < (↑rows130.length : Int)) (((Hyp (((rows130.getD (s_rem (s_rem slot n105 + (1 : Int)) n105).toNat []).getD (0 : Nat) AV.gone).toS.size ≤ (1000000 : Nat))) ∧
   ((∀ (z138 : ByteArray),
   ((z138 =
  s_com ((rows130.getD (s_rem (s_rem slot n105 + (1 : Int)) n105).toNat []).getD (0 : Nat) AV.gone).toS
    ((rows130.getD (s_rem (s_rem slot n105 + (2 : Int)) n105).toNat []).getD (1 : Nat) AV.gone).toS) →
   ((Hyp ((2 : Int) ≤ (2 : Int) ∧
  (2 : Int) ≤ n105 ∧
    (6 : Int) ≤ n105 ∧
      n105 ≤ (12 : Int) ∧
        ((1 : Int) = (1 : Int) ∨ (1 : Int) = (-1 : Int)) ∧
          (0 : Int) ≤ s_rem slot n105 ∧
            s_rem slot n105 < n105 ∧
              (↑rows130.length : Int) = n105 ∧
                ∀ (j : Int),
                  (2 : Int) ≤ j → j < n105 → s_outI2 rows130 (s_rem (s_rem slot n105 + (1 : Int) * j) n105) = z138)) ∧
   (chk ((0 : Int) ≤ s_rem (s_rem slot n105 + (1 : Int)) n105 ∧
  s_rem (s_rem slot n105 + (1 : Int)) n105 < (↑rows130.length : Int)) (chk ((0 : Int) ≤ s_rem (s_rem slot n105 + (1 : Int)) n105 ∧
  s_rem (s_rem slot n105 + (1 : Int)) n105 < (↑rows130.length : Int)) (Q ((AV.bool
    (((rows130.getD (s_rem (s_rem slot n105 + (1 : Int)) n105).toNat []).getD (2 : Nat) AV.gone).toS.toList ==
      ((rows130.getD (s_rem (s_rem slot n105 + (1 : Int)) n105).toNat []).getD (0 : Nat) AV.gone).toS.toList),
  []))))))))))))))))))))))))))))))))))))))))))))))))))))) := by kernel_rfl
end Go.Proofs.YtiemjcchlfbglaaE
/- SpreadOwner: the plain law. -/
namespace Go.Proofs.YtiemjcchlfbglaaE
open Go Go.WideShapes
set_option linter.unusedVariables false
set_option linter.unusedSimpArgs false
set_option maxRecDepth 100000

theorem intsR (k : IntKind) (ps : List Int) : ints (irow k ps) = ps := by
  induction ps with
  | nil => rfl
  | cons a l ih =>
    have : ints (irow k (a :: l)) = a :: ints (irow k l) := rfl
    rw [this, ih]
theorem cfR_ok {n pi e g fi : Int} {ps : List Int} (h : s_made n pi e g fi ps) : s_confOk n pi e g fi (ints (irow .i64 ps)) = true := by
  obtain ⟨h1, h2, h3, h4, h5, h6, h7, h8, h9, h10, h11, h12⟩ := h
  rw [intsR]
  simp only [s_confOk, Bool.and_eq_true, decide_eq_true_eq, List.all_eq_true]
  exact ⟨⟨⟨⟨⟨⟨⟨⟨⟨⟨⟨h1, h2⟩, h3⟩, by omega⟩, h5⟩, by omega⟩, h7⟩, h8⟩, h9⟩, by omega⟩, h11⟩, h12⟩
theorem madeR {n pi e g fi : Int} {qs : List Int} (hm : s_made n pi e g fi qs) : 4 ≤ pi ∧ pi ≤ 1000 := by
  unfold s_made at hm
  omega
theorem actsR_ok {n k a f t : Int} {acts : List (List AV)} {ds : List Int} (h : s_fok n k a f t acts ds) : s_actsB acts := by
  obtain ⟨_, _, _, _, _, _, _, _, _, h1, h2, _⟩ := h
  refine ⟨by omega, fun r hr => ?_⟩
  obtain ⟨how, m, x, rfl, hx⟩ := h2 r hr
  show x.size ≤ 1000000
  omega
theorem repR_int {m : Nat} {v : Int} {i : Int} (h0 : 0 ≤ i) (h1 : i < m) : s_int (s_rep m v) i = v := by
  unfold s_int s_rep
  rw [rep_get (by omega)]
  rfl
theorem repR_take (m : Nat) (v : Int) : List.take m (List.drop 0 (s_rep m v)) = s_rep m v := by
  rw [List.drop_zero, List.take_of_length_le]
  simp [s_rep]
theorem strR_eq {a b : ByteArray} (h : a = b) : (!(a.toList == b.toList)) = false := by rw [h]; simp
theorem okLOwn : OkLp Try.prog H0 9 18 lOwn := by
  refine okLp_of (U := 6) (k := 6) okY1 lOwn (fun vals h => match vals, h with | [_, _, _, _, _, .int _ k], .box (.int _ n :: _) :: _ => (n - k).toNat | _, _ => 0) fun vals h Q hl => ?_
  unfold lOwn at hl
  split at hl
  · rename_i dir nl2 rows a w k n pi e g fi nl ps fk fa ff ft nl3 acts nl4 ds ro sl d2 m1 m2 z sts dvs
    obtain ⟨⟨h0, h1, h2, h3, hd, h4, h5, h6, h7⟩, hq⟩ := hyp_iff.1 hl
    refine to (nfOwna ..) (br_intro (fun c => ?_) fun c => hq)
    have c := of_decide_eq_true c
    have hw := dir_mul hd (d := k) (by omega) (by omega)
    have wk : IntKind.i64.wrap (k + 1) = k + 1 := wr (by omega) (by omega)
    have hr := rem_lt (sl + dir * k) (show 0 < n by omega)
    rw [wr (x := dir * k) (by omega) (by omega), wk]
    refine hyp_iff.2 ⟨⟨by omega, by omega, by omega, by omega, hw.1, hw.2⟩, ?_⟩
    rw [chk_iff]
    refine ⟨⟨hr.1, by omega⟩, br_intro (fun c2 => absurd (c2.symm.trans (strR_eq (h7 k h0 c))) (by simp)) fun _ => ⟨by show (n - (k + 1)).toNat < (n - k).toNat; omega, hyp_iff.2 ⟨⟨by omega, by omega, h2, h3, hd, h4, h5, h6, h7⟩, hq⟩⟩⟩
  · exact hl.elim
theorem okY1O : OkSp Try.prog H0 Y1O := ⟨okY1.fn, okLOwn, trivial⟩
section
variable {P : RG} {o : Int} {a : ByteArray} {M : Nat} {hit : Int → Int → Bool} {fr to_ ro : Int}
theorem owner_out (hok : gOk P o false M) (hM : (M : Int) = P.n - 1) (hsl : P.sl < P.n) (hS : ∀ k, s_int P.sts (gN P o k) ≠ 0) (hg : ∀ x, gGrd P o x = x) (hE : gEm P hit fr to_ ro)
    (hh : ∀ i j : Nat, 0 < i → (i : Int) < P.n → hit (gN P o i) (gN P o j) = false) (ha : a.size ≤ 1000000) :
    gO P o false a ⟨#[]⟩ 1 = (gC P o a 0 1, a) ∧ ∀ k : Nat, 2 ≤ k → (k : Int) < P.n → gO P o false a ⟨#[]⟩ k = (s_com (gC P o a 0 1) (gC P o a 0 2), if k = 2 then gC P o a 0 1 else s_com (gC P o a 0 1) (gC P o a 0 2)) := by
  have hn := hok.1
  have e1 : gO P o false a ⟨#[]⟩ 1 = (gC P o a 0 1, a) := by
    show (gOutX P o false a _ 0, a) = _
    rw [gOut_one (hS 1) hsl]
    unfold gDirX
    rw [if_pos rfl, hg]
  have hs1 := gC_size hok hE ha 0 1
  have fw := front_com1 (gC P o a 0 1) (gC P o a 0 2)
  have cw : s_cl (s_com (gC P o a 0 1) (gC P o a 0 2)) := cl_front (gC_cl ..) fw
  have sw : (s_com (gC P o a 0 1) (gC P o a 0 2)).size ≤ 1000000 := Nat.le_trans (ext_le _ _ _) hs1
  refine ⟨e1, fun k => ?_⟩
  induction k with
  | zero => intro h; omega
  | succ k ih =>
    intro h1 h2
    by_cases hk : k = 1
    · subst hk
      show (gOutX P o false (gO P o false a ⟨#[]⟩ 1).1 (gO P o false a ⟨#[]⟩ 1).2 1, (gO P o false a ⟨#[]⟩ 1).1) = _
      rw [e1, gOut_com (hS 2) (.inl (by omega))]
      have d1 : gDirX P o (gC P o a 0 1) 1 = gC P o a 0 1 := by
        unfold gDirX
        rw [if_neg (by omega), gC_pass hok hE hs1 (.inl (hh 1 2 (by omega) (by omega))), clean_of (gC_cl ..)]
      rw [d1, if_pos rfl]
      rfl
    · have ih := ih (by omega) (by omega)
      show (gOutX P o false (gO P o false a ⟨#[]⟩ k).1 (gO P o false a ⟨#[]⟩ k).2 k, (gO P o false a ⟨#[]⟩ k).1) = _
      rw [ih, gOut_com (hS (k + 1)) (.inl (by omega)), if_neg (show ¬ k + 1 = 2 by omega)]
      have d1 : gDirX P o (s_com (gC P o a 0 1) (gC P o a 0 2)) k = s_com (gC P o a 0 1) (gC P o a 0 2) := by
        unfold gDirX
        rw [if_neg (by omega), gC_pass hok hE sw (.inl (hh k (k + 1) (by omega) (by omega))), clean_of cw]
      rw [d1]
      unfold gSkipX
      rw [if_neg (show ¬ k = 0 by omega)]
      by_cases h3 : k = 2
      · rw [if_pos h3, gC_pass hok hE hs1 (.inl (hh (k - 1) (k + 1) (by omega) (by omega))), clean_of (gC_cl ..), com_front fw]
      · rw [if_neg h3, gC_pass hok hE sw (.inl (hh (k - 1) (k + 1) (by omega) (by omega))), clean_of cw, com_self]
end
theorem node_of {n o dir : Int} (k : Nat) {x : Int} (h : x = dir * k) : s_rem (o + x) n = s_node n o dir k := by
  rw [h]; rfl
theorem owner_holds (n pi e g fi : Int) (nl : Bool) (ps : List (List AV)) (fk fa ff ft : Int) (nl1 nl2 : Bool) (acts ds : List (List AV)) (hacts : ∀ r ∈ acts, ∃ (a b : Int) (s : ByteArray), r = [.int .i64 a, .int .i64 b, .str s] ∧ (s.size : Int) ≤ maxLen) (hal : acts.length ≤ maxLen) (hdl : ds.length ≤ maxLen) (hds : ∀ r ∈ ds, AInt .i64 r)
    (round slot : Int) (k r sl pk pv : Int) (nl3 : Bool) (ec : List (List AV)) (nl4 : Bool) (ns : List (List AV)) (up : Bool) :
    inlW Try.prog H0 Y1O 6 (InO Try.prog H0 Y1O 6 6) 9 [cf n pi e g fi nl ps, .agg [.int .i64 fk, .int .i64 fa, .int .i64 ff, .int .i64 ft, .row nl1 [.int .i64, .int .i64, .str] acts, .row nl2 [.int .i64] ds], .int .i64 round, .int .i64 slot, .agg [.int .i64 k, .int .i64 r, .int .i64 sl, .int .i64 pk, .int .i64 pv, .row nl3 [.int .i64, .int .i64] ec], .row nl4 [.int .i64] ns, .bool up] [] (fun r => r.1 = .bool true) := by
  have main : ∀ dir : Int, (dir = 1 ∨ dir = -1) → ∀ (n' pi' e' g' fi' : Int) (qs : List Int) (m : Nat) (z : ByteArray), s_made n' pi' e' g' fi' qs → (m : Int) = n' → z.size ≤ 1000 → ∀ em : Int → Int → ByteArray → ByteArray,
      (∀ (fm dst : Int) (base : ByteArray), 0 ≤ dst → dst ≤ 1000000 → base.size ≤ 1000000 → s_emitR (s_hit n' 1 (s_rem slot n') fm dst) 0 1000 (s_rem round 900) base (em fm dst base)) → ∀ rows : List (List AV),
      rows = s_gIterS ⟨n', dir, s_rem slot n', pi', s_wayL n' (s_rem slot n') dir (n' - 1).toNat, s_rep m 4, s_rep m 0, em⟩ (s_gI1 n' (s_rem slot n') z) (s_gI2 n' (s_rem slot n')) 0 (n' - 1).toNat →
      rows.length = n'.toNat ∧ ∃ X Y : ByteArray, X.size ≤ 1000000 ∧ ((rows.getD (s_node n' (s_rem slot n') dir 1).toNat []).getD 0 AV.gone).toS = X ∧ ((rows.getD (s_node n' (s_rem slot n') dir 1).toNat []).getD 2 AV.gone).toS = X ∧
        ((rows.getD (s_node n' (s_rem slot n') dir 2).toNat []).getD 1 AV.gone).toS = Y ∧ ∀ j : Nat, 2 ≤ j → (j : Int) < n' → s_outI2 rows (s_node n' (s_rem slot n') dir j) = s_com X Y := by
    intro dir hd n' pi' e' g' fi' qs m z hm hmn hz em hem rows hr
    have hn := hm.1
    have hn2 := hm.2.1
    have hp := madeR hm
    have hs := rem_lt slot (show 0 < n' by omega)
    obtain ⟨P, hP⟩ : ∃ P : RG, P = ⟨n', dir, s_rem slot n', pi', s_wayL n' (s_rem slot n') dir (n' - 1).toNat, s_rep m 4, s_rep m 0, em⟩ := ⟨_, rfl⟩
    have hok : gOk P (s_rem slot n') false (n' - 1).toNat := by
      rw [hP]
      exact ⟨hn, hn2, hd, hs.1, hs.2, rfl, by show (((n' - 1).toNat : Nat) : Int) < n'; omega, fun h => by cases h⟩
    have Pn : P.n = n' := by rw [hP]
    have Pd : P.dir = dir := by rw [hP]
    have hE : gEm P (s_hit n' 1 (s_rem slot n')) 0 1000 (s_rem round 900) := by rw [hP]; exact hem
    have hS : ∀ k, s_int P.sts (gN P (s_rem slot n') k) ≠ 0 := fun k => by
      have hl := g_lt hok k
      have : s_int P.sts (gN P (s_rem slot n') k) = 4 := by
        rw [show P.sts = s_rep m 4 by rw [hP]]
        exact repR_int hl.1 (by omega)
      omega
    have hg : ∀ x, gGrd P (s_rem slot n') x = x := fun x => by
      have hl := g_lt hok 1
      unfold gGrd
      refine guard_in ?_
      rw [show P.dvs = s_rep m 0 by rw [hP], repR_int hl.1 (by omega), show P.pi = pi' by rw [hP]]
      omega
    have hh : ∀ i j : Nat, 0 < i → (i : Int) < P.n → s_hit n' 1 (s_rem slot n') (gN P (s_rem slot n') i) (gN P (s_rem slot n') j) = false := fun i j h1 h2 => by
      have hne := gN_ne hok (i := i) (j := 0) h2 (by omega) (by omega)
      rw [gN_zero hok] at hne
      unfold s_hit
      rw [if_pos rfl]
      exact beq_eq_false_iff_ne.2 hne
    obtain ⟨o1, o2⟩ := owner_out (a := z) hok (by omega) (by rw [hP]; exact hs.2) hS hg hE hh (by omega)
    have hI1 : s_gI1 n' (s_rem slot n') z = mG P (s_rem slot n') false z ⟨#[]⟩ 0 := by
      have := gI1_eq (a := z) (b := ⟨#[]⟩) hok
      rw [Pn] at this
      exact this
    have hI2 : s_gI2 n' (s_rem slot n') = mGd P (s_rem slot n') false 0 := by
      have := gI2_eq hok
      rw [Pn] at this
      exact this
    rw [← hP] at hr
    have get : ∀ j : Nat, (j : Int) < n' → rows.getD (s_node n' (s_rem slot n') dir j).toNat [] = gSide P (s_rem slot n') false z ⟨#[]⟩ j := fun j hj => by
      have := g_get hok hI1 hI2 (m := j) (.inl (by omega))
      rw [hr, ← this]
      show _ = List.getD _ (s_node P.n _ P.dir j).toNat []
      rw [Pn, Pd]
    have side : ∀ j : Nat, 0 < j → gSide P (s_rem slot n') false z ⟨#[]⟩ j = [.str (gDirX P (s_rem slot n') (gO P (s_rem slot n') false z ⟨#[]⟩ (j - 1)).1 (j - 1)), .str (gSkipX P (s_rem slot n') false (gO P (s_rem slot n') false z ⟨#[]⟩ (j - 1)).2 (j - 1)), .str (gO P (s_rem slot n') false z ⟨#[]⟩ j).1, .int .i64 j] := fun j hj => by
      unfold gSide
      rw [if_neg (by omega), if_neg (fun h => by cases h.1)]
    refine ⟨?_, gC P (s_rem slot n') z 0 1, gC P (s_rem slot n') z 0 2, gC_size hok hE (by omega) 0 1, ?_, ?_, ?_, fun j h1 h2 => ?_⟩
    · rw [hr, g_len (a := z) (b := ⟨#[]⟩) (d1 := s_gI2 n' (s_rem slot n')) hok hI1, Pn]
    · rw [get 1 (by omega), side 1 (by omega)]
      show gDirX P (s_rem slot n') z 0 = _
      unfold gDirX
      rw [if_pos rfl, hg]
    · rw [get 1 (by omega), side 1 (by omega)]
      show (gO P (s_rem slot n') false z ⟨#[]⟩ 1).1 = _
      rw [o1]
    · rw [get 2 (by omega), side 2 (by omega)]
      show gSkipX P (s_rem slot n') false (gO P (s_rem slot n') false z ⟨#[]⟩ 1).2 1 = _
      rw [o1]
      rfl
    · unfold s_outI2
      rw [get j h2, side j (by omega)]
      show (gO P (s_rem slot n') false z ⟨#[]⟩ j).1 = _
      rw [o2 j h1 (by omega)]
  refine to (nfOwner ..) (hyp_iff.2 ⟨by unfold maxLen at hal; omega, fun b hb => br_intro (fun _ => rfl) fun _ => br_intro (fun _ => ?_) fun _ => ?_⟩)
  · intro n' pi' e' g' fi' nl' qs m z hz
    obtain ⟨hm, hmn, hz, hz0, hsz⟩ := hz
    have hn := hm.1
    have hn2 := hm.2.1
    have hs := rem_lt slot (show 0 < n' by omega)
    have hr9 := rem_lt round (show (0 : Int) < 900 by omega)
    simp only [chk_iff, hyp_iff, repR_take, rep_len]
    refine ⟨⟨hn, hn2⟩, fun k' a' f' t' nl1' nl2' acts' ds' hf => ⟨by omega, by omega, ⟨cfR_ok hm, actsR_ok hf, hr9.1, by omega, hs.1, by omega, .inr trivial, hmn, hmn, hs.2, by omega⟩, fun em hem rows hr => ?_⟩⟩
    obtain ⟨hl, X, Y, hX, h1, h2, h3, h4⟩ := main (-1) (.inr rfl) n' pi' e' g' fi' qs m z hm hmn hsz em hem rows hr
    have e1 : s_rem (s_rem slot n' + -1) n' = s_node n' (s_rem slot n') (-1) 1 := node_of 1 (by omega)
    have e2 : s_rem (s_rem slot n' + -2) n' = s_node n' (s_rem slot n') (-1) 2 := node_of 2 (by omega)
    have l1 := node_lt (n := n') (o := s_rem slot n') (dir := -1) (by omega) 1
    have l2 := node_lt (n := n') (o := s_rem slot n') (dir := -1) (by omega) 2
    rw [e1, e2]
    refine br_intro (fun c => absurd c (by rw [hl]; simp; omega)) fun _ => ⟨⟨by omega, by omega, by omega, by omega, by omega, by omega⟩, ⟨by omega, by omega, by omega, by omega, by omega, by omega⟩, ⟨l1.1, by omega⟩, ⟨l2.1, by omega⟩, by rw [h1]; exact hX, fun w hw => ⟨⟨by omega, by omega, hn, hn2, .inr trivial, hs.1, hs.2, by omega, fun j j1 j2 => ?_⟩, ⟨l1.1, by omega⟩, ⟨l1.1, by omega⟩, ?_⟩⟩
    · rw [hw, h1, h3]
      have := h4 j.toNat (by omega) (by omega)
      rw [← this]
      congr 1
      exact node_of _ (by omega)
    · rw [h1, h2]; simp
  · intro n' pi' e' g' fi' nl' qs m z hz
    obtain ⟨hm, hmn, hz, hz0, hsz⟩ := hz
    have hn := hm.1
    have hn2 := hm.2.1
    have hs := rem_lt slot (show 0 < n' by omega)
    have hr9 := rem_lt round (show (0 : Int) < 900 by omega)
    simp only [chk_iff, hyp_iff, repR_take, rep_len]
    refine ⟨⟨hn, hn2⟩, fun k' a' f' t' nl1' nl2' acts' ds' hf => ⟨by omega, by omega, ⟨cfR_ok hm, actsR_ok hf, hr9.1, by omega, hs.1, by omega, .inl trivial, hmn, hmn, hs.2, by omega⟩, fun em hem rows hr => ?_⟩⟩
    obtain ⟨hl, X, Y, hX, h1, h2, h3, h4⟩ := main 1 (.inl rfl) n' pi' e' g' fi' qs m z hm hmn hsz em hem rows hr
    have e1 : s_rem (s_rem slot n' + 1) n' = s_node n' (s_rem slot n') 1 1 := node_of 1 (by omega)
    have e2 : s_rem (s_rem slot n' + 2) n' = s_node n' (s_rem slot n') 1 2 := node_of 2 (by omega)
    have l1 := node_lt (n := n') (o := s_rem slot n') (dir := 1) (by omega) 1
    have l2 := node_lt (n := n') (o := s_rem slot n') (dir := 1) (by omega) 2
    rw [e1, e2]
    refine br_intro (fun c => absurd c (by rw [hl]; simp; omega)) fun _ => ⟨⟨by omega, by omega, by omega, by omega, by omega, by omega⟩, ⟨by omega, by omega, by omega, by omega, by omega, by omega⟩, ⟨l1.1, by omega⟩, ⟨l2.1, by omega⟩, by rw [h1]; exact hX, fun w hw => ⟨⟨by omega, by omega, hn, hn2, .inl trivial, hs.1, hs.2, by omega, fun j j1 j2 => ?_⟩, ⟨l1.1, by omega⟩, ⟨l1.1, by omega⟩, ?_⟩⟩
    · rw [hw, h1, h3]
      have := h4 j.toNat (by omega) (by omega)
      rw [← this]
      congr 1
      exact node_of _ (by omega)
    · rw [h1, h2]; simp
end Go.Proofs.YtiemjcchlfbglaaE
